/- The interpreter of trees, part 5 of 6: TiQuick TiMemo TiEnt TiGlob. -/
import Derived.Test.YtemkchpdcgkeiaaGreatDoorTiJ4
import Derived.KernelRfl
import Derived.Below
import Derived.Lib.LaidU8
import Derived.OpenShut
set_option linter.unusedSimpArgs false
set_option linter.unusedVariables false
/- Small words for the quick functions' texts. -/
namespace Go.TI
set_option linter.unusedVariables false

/-- As bnd over a pair. -/
noncomputable def bn2 {ρ : Type} (x : Option (T × H)) (k : T → H → Option ρ) : Option ρ := @Option.rec (T × H) (fun _ => Option ρ) none (fun p => @Prod.rec T H (fun _ => Option ρ) (fun v h => k v h) p) x
noncomputable abbrev lk := @TI.look
noncomputable abbrev sv := @TI.setVar
abbrev FinV := H → Option T → Option (T × H)
abbrev FinE := H → Bool → Option Bool → Option (T × H)

def bodyOf (F : Fun) : Code := Option.casesOn F.fn.body .skip fun c => c

/-- A region by its number. -/
def regOf (id : Nat) : Code → Option Code
  | .region i ops d => Bool.casesOn (Nat.beq i id) none (some (.region i ops d))
  | .seq a b => Option.casesOn (regOf id a) (regOf id b) fun c => some c
  | .cond _ a b => Option.casesOn (regOf id a) (regOf id b) fun c => some c
  | .block _ a => regOf id a
  | .loop a => regOf id a
  | _ => none
def regAt (id : Nat) (c : Code) : Code := Option.casesOn (regOf id c) .skip fun c => c

theorem EqR.same {cx : Ctx} {cf : CallF} {mask fuel : Nat} {K : List Nat} {a b : Code} (h : a = b) : EqR K (codeT cx cf fuel mask a) (codeT cx cf fuel mask b) := by subst h; exact EqR.refl _

noncomputable def ini0 (V : Vars) : List T → Option Vars := fun l => List.casesOn l (some V) fun _ _ => none
noncomputable def ini1 (V : T → Vars) : List T → Option Vars := fun l => List.casesOn l none fun a l => ini0 (V a) l
noncomputable def ini2 (V : T → T → Vars) : List T → Option Vars := fun l => List.casesOn l none fun a l => ini1 (V a) l
noncomputable def ini3 (V : T → T → T → Vars) : List T → Option Vars := fun l => List.casesOn l none fun a l => ini2 (V a) l
noncomputable def ini4 (V : T → T → T → T → Vars) : List T → Option Vars := fun l => List.casesOn l none fun a l => ini3 (V a) l
noncomputable def ini5 (V : T → T → T → T → T → Vars) : List T → Option Vars := fun l => List.casesOn l none fun a l => ini4 (V a) l
noncomputable def ini6 (V : T → T → T → T → T → T → Vars) : List T → Option Vars := fun l => List.casesOn l none fun a l => ini5 (V a) l
noncomputable def ini7 (V : T → T → T → T → T → T → T → Vars) : List T → Option Vars := fun l => List.casesOn l none fun a l => ini6 (V a) l
noncomputable def ini8 (V : T → T → T → T → T → T → T → T → Vars) : List T → Option Vars := fun l => List.casesOn l none fun a l => ini7 (V a) l

def IniOk (mask nt : Nat) (K : List Nat) (pre : List T) (i : List T → Option Vars) : Prop := ∀ args v, i args = some v → initVars mask nt 0 (pre ++ args) = some v ∧ keys v = K
section
variable {mask nt : Nat} {K : List Nat} {pre : List T}
theorem ini0_ok {V : Vars} (h : initVars mask nt 0 pre = some V ∧ keys V = K) : IniOk mask nt K pre (ini0 V) := by
  intro args v hv
  cases args with
  | nil =>
    have hv : some V = some v := hv
    simp only [Option.some.injEq] at hv; subst hv
    simpa using h
  | cons => simp [ini0] at hv
theorem iniS_ok {f : T → List T → Option Vars} {i : List T → Option Vars} (hi : i = fun l => @List.casesOn T (fun _ => Option Vars) l none fun a l => f a l) (h : ∀ a, IniOk mask nt K (pre ++ [a]) (f a)) : IniOk mask nt K pre i := by
  subst hi
  intro args v hv
  cases args with
  | nil => simp at hv
  | cons a l =>
    have := h a l v hv
    simpa using this
theorem ini1_ok {V : T → Vars} (h : ∀ a, initVars mask nt 0 (pre ++ [a]) = some (V a) ∧ keys (V a) = K) : IniOk mask nt K pre (ini1 V) := iniS_ok rfl fun a => ini0_ok (h a)
theorem ini2_ok {V : T → T → Vars} (h : ∀ a b, initVars mask nt 0 (pre ++ [a] ++ [b]) = some (V a b) ∧ keys (V a b) = K) : IniOk mask nt K pre (ini2 V) := iniS_ok rfl fun a => ini1_ok (h a)
theorem ini3_ok {V : T → T → T → Vars} (h : ∀ a b c, initVars mask nt 0 (pre ++ [a] ++ [b] ++ [c]) = some (V a b c) ∧ keys (V a b c) = K) : IniOk mask nt K pre (ini3 V) := iniS_ok rfl fun a => ini2_ok (h a)
theorem ini4_ok {V : T → T → T → T → Vars} (h : ∀ a b c d, initVars mask nt 0 (pre ++ [a] ++ [b] ++ [c] ++ [d]) = some (V a b c d) ∧ keys (V a b c d) = K) : IniOk mask nt K pre (ini4 V) := iniS_ok rfl fun a => ini3_ok (h a)
theorem ini5_ok {V : T → T → T → T → T → Vars} (h : ∀ a b c d e, initVars mask nt 0 (pre ++ [a] ++ [b] ++ [c] ++ [d] ++ [e]) = some (V a b c d e) ∧ keys (V a b c d e) = K) : IniOk mask nt K pre (ini5 V) := iniS_ok rfl fun a => ini4_ok (h a)
theorem ini6_ok {V : T → T → T → T → T → T → Vars} (h : ∀ a b c d e f, initVars mask nt 0 (pre ++ [a] ++ [b] ++ [c] ++ [d] ++ [e] ++ [f]) = some (V a b c d e f) ∧ keys (V a b c d e f) = K) : IniOk mask nt K pre (ini6 V) := iniS_ok rfl fun a => ini5_ok (h a)
theorem ini7_ok {V : T → T → T → T → T → T → T → Vars} (h : ∀ a b c d e f g, initVars mask nt 0 (pre ++ [a] ++ [b] ++ [c] ++ [d] ++ [e] ++ [f] ++ [g]) = some (V a b c d e f g) ∧ keys (V a b c d e f g) = K) : IniOk mask nt K pre (ini7 V) := iniS_ok rfl fun a => ini6_ok (h a)
theorem ini8_ok {V : T → T → T → T → T → T → T → T → Vars} (h : ∀ a b c d e f g i, initVars mask nt 0 (pre ++ [a] ++ [b] ++ [c] ++ [d] ++ [e] ++ [f] ++ [g] ++ [i]) = some (V a b c d e f g i) ∧ keys (V a b c d e f g i) = K) : IniOk mask nt K pre (ini8 V) := iniS_ok rfl fun a => ini7_ok (h a)
theorem IniOk.out {i : List T → Option Vars} (h : IniOk mask nt K [] i) : ∀ args v, i args = some v → initVars mask nt 0 args = some v ∧ keys v = K := h
end

section
variable {P : List T → Prop}
theorem allS {n : Nat} {f : Prop} (h : ∀ x : T, ∀ xs : List T, xs.length = n → P (x :: xs)) : ∀ xs : List T, xs.length = n + 1 → P xs := by
  intro xs hl
  cases xs with
  | nil => simp at hl
  | cons x xs => exact h x xs (by simpa using hl)
theorem all0 (h : P []) : ∀ xs : List T, xs.length = 0 → P xs := fun xs hl => by rw [List.eq_nil_of_length_eq_zero hl]; exact h
end
theorem all1 {P : List T → Prop} (h : ∀ x0 : T, P [x0]) : ∀ xs : List T, xs.length = 1 → P xs := allS (f := True) fun x => all0 (P := fun xs => P (x :: xs)) (h x)
theorem all2 {P : List T → Prop} (h : ∀ x0 x1 : T, P [x0, x1]) : ∀ xs : List T, xs.length = 2 → P xs := allS (f := True) fun x => all1 (P := fun xs => P (x :: xs)) (h x)
theorem all3 {P : List T → Prop} (h : ∀ x0 x1 x2 : T, P [x0, x1, x2]) : ∀ xs : List T, xs.length = 3 → P xs := allS (f := True) fun x => all2 (P := fun xs => P (x :: xs)) (h x)
theorem all4 {P : List T → Prop} (h : ∀ x0 x1 x2 x3 : T, P [x0, x1, x2, x3]) : ∀ xs : List T, xs.length = 4 → P xs := allS (f := True) fun x => all3 (P := fun xs => P (x :: xs)) (h x)
theorem all5 {P : List T → Prop} (h : ∀ x0 x1 x2 x3 x4 : T, P [x0, x1, x2, x3, x4]) : ∀ xs : List T, xs.length = 5 → P xs := allS (f := True) fun x => all4 (P := fun xs => P (x :: xs)) (h x)
theorem all6 {P : List T → Prop} (h : ∀ x0 x1 x2 x3 x4 x5 : T, P [x0, x1, x2, x3, x4, x5]) : ∀ xs : List T, xs.length = 6 → P xs := allS (f := True) fun x => all5 (P := fun xs => P (x :: xs)) (h x)
theorem all7 {P : List T → Prop} (h : ∀ x0 x1 x2 x3 x4 x5 x6 : T, P [x0, x1, x2, x3, x4, x5, x6]) : ∀ xs : List T, xs.length = 7 → P xs := allS (f := True) fun x => all6 (P := fun xs => P (x :: xs)) (h x)
theorem all8 {P : List T → Prop} (h : ∀ x0 x1 x2 x3 x4 x5 x6 x7 : T, P [x0, x1, x2, x3, x4, x5, x6, x7]) : ∀ xs : List T, xs.length = 8 → P xs := allS (f := True) fun x => all7 (P := fun xs => P (x :: xs)) (h x)
theorem all9 {P : List T → Prop} (h : ∀ x0 x1 x2 x3 x4 x5 x6 x7 x8 : T, P [x0, x1, x2, x3, x4, x5, x6, x7, x8]) : ∀ xs : List T, xs.length = 9 → P xs := allS (f := True) fun x => all8 (P := fun xs => P (x :: xs)) (h x)
theorem all10 {P : List T → Prop} (h : ∀ x0 x1 x2 x3 x4 x5 x6 x7 x8 x9 : T, P [x0, x1, x2, x3, x4, x5, x6, x7, x8, x9]) : ∀ xs : List T, xs.length = 10 → P xs := allS (f := True) fun x => all9 (P := fun xs => P (x :: xs)) (h x)
theorem all11 {P : List T → Prop} (h : ∀ x0 x1 x2 x3 x4 x5 x6 x7 x8 x9 x10 : T, P [x0, x1, x2, x3, x4, x5, x6, x7, x8, x9, x10]) : ∀ xs : List T, xs.length = 11 → P xs := allS (f := True) fun x => all10 (P := fun xs => P (x :: xs)) (h x)
theorem all12 {P : List T → Prop} (h : ∀ x0 x1 x2 x3 x4 x5 x6 x7 x8 x9 x10 x11 : T, P [x0, x1, x2, x3, x4, x5, x6, x7, x8, x9, x10, x11]) : ∀ xs : List T, xs.length = 12 → P xs := allS (f := True) fun x => all11 (P := fun xs => P (x :: xs)) (h x)
theorem all13 {P : List T → Prop} (h : ∀ x0 x1 x2 x3 x4 x5 x6 x7 x8 x9 x10 x11 x12 : T, P [x0, x1, x2, x3, x4, x5, x6, x7, x8, x9, x10, x11, x12]) : ∀ xs : List T, xs.length = 13 → P xs := allS (f := True) fun x => all12 (P := fun xs => P (x :: xs)) (h x)
theorem all14 {P : List T → Prop} (h : ∀ x0 x1 x2 x3 x4 x5 x6 x7 x8 x9 x10 x11 x12 x13 : T, P [x0, x1, x2, x3, x4, x5, x6, x7, x8, x9, x10, x11, x12, x13]) : ∀ xs : List T, xs.length = 14 → P xs := allS (f := True) fun x => all13 (P := fun xs => P (x :: xs)) (h x)
theorem all15 {P : List T → Prop} (h : ∀ x0 x1 x2 x3 x4 x5 x6 x7 x8 x9 x10 x11 x12 x13 x14 : T, P [x0, x1, x2, x3, x4, x5, x6, x7, x8, x9, x10, x11, x12, x13, x14]) : ∀ xs : List T, xs.length = 15 → P xs := allS (f := True) fun x => all14 (P := fun xs => P (x :: xs)) (h x)
theorem all16 {P : List T → Prop} (h : ∀ x0 x1 x2 x3 x4 x5 x6 x7 x8 x9 x10 x11 x12 x13 x14 x15 : T, P [x0, x1, x2, x3, x4, x5, x6, x7, x8, x9, x10, x11, x12, x13, x14, x15]) : ∀ xs : List T, xs.length = 16 → P xs := allS (f := True) fun x => all15 (P := fun xs => P (x :: xs)) (h x)
theorem all17 {P : List T → Prop} (h : ∀ x0 x1 x2 x3 x4 x5 x6 x7 x8 x9 x10 x11 x12 x13 x14 x15 x16 : T, P [x0, x1, x2, x3, x4, x5, x6, x7, x8, x9, x10, x11, x12, x13, x14, x15, x16]) : ∀ xs : List T, xs.length = 17 → P xs := allS (f := True) fun x => all16 (P := fun xs => P (x :: xs)) (h x)
theorem all18 {P : List T → Prop} (h : ∀ x0 x1 x2 x3 x4 x5 x6 x7 x8 x9 x10 x11 x12 x13 x14 x15 x16 x17 : T, P [x0, x1, x2, x3, x4, x5, x6, x7, x8, x9, x10, x11, x12, x13, x14, x15, x16, x17]) : ∀ xs : List T, xs.length = 18 → P xs := allS (f := True) fun x => all17 (P := fun xs => P (x :: xs)) (h x)
theorem all19 {P : List T → Prop} (h : ∀ x0 x1 x2 x3 x4 x5 x6 x7 x8 x9 x10 x11 x12 x13 x14 x15 x16 x17 x18 : T, P [x0, x1, x2, x3, x4, x5, x6, x7, x8, x9, x10, x11, x12, x13, x14, x15, x16, x17, x18]) : ∀ xs : List T, xs.length = 19 → P xs := allS (f := True) fun x => all18 (P := fun xs => P (x :: xs)) (h x)
theorem all20 {P : List T → Prop} (h : ∀ x0 x1 x2 x3 x4 x5 x6 x7 x8 x9 x10 x11 x12 x13 x14 x15 x16 x17 x18 x19 : T, P [x0, x1, x2, x3, x4, x5, x6, x7, x8, x9, x10, x11, x12, x13, x14, x15, x16, x17, x18, x19]) : ∀ xs : List T, xs.length = 20 → P xs := allS (f := True) fun x => all19 (P := fun xs => P (x :: xs)) (h x)
theorem all21 {P : List T → Prop} (h : ∀ x0 x1 x2 x3 x4 x5 x6 x7 x8 x9 x10 x11 x12 x13 x14 x15 x16 x17 x18 x19 x20 : T, P [x0, x1, x2, x3, x4, x5, x6, x7, x8, x9, x10, x11, x12, x13, x14, x15, x16, x17, x18, x19, x20]) : ∀ xs : List T, xs.length = 21 → P xs := allS (f := True) fun x => all20 (P := fun xs => P (x :: xs)) (h x)
theorem all22 {P : List T → Prop} (h : ∀ x0 x1 x2 x3 x4 x5 x6 x7 x8 x9 x10 x11 x12 x13 x14 x15 x16 x17 x18 x19 x20 x21 : T, P [x0, x1, x2, x3, x4, x5, x6, x7, x8, x9, x10, x11, x12, x13, x14, x15, x16, x17, x18, x19, x20, x21]) : ∀ xs : List T, xs.length = 22 → P xs := allS (f := True) fun x => all21 (P := fun xs => P (x :: xs)) (h x)
theorem all23 {P : List T → Prop} (h : ∀ x0 x1 x2 x3 x4 x5 x6 x7 x8 x9 x10 x11 x12 x13 x14 x15 x16 x17 x18 x19 x20 x21 x22 : T, P [x0, x1, x2, x3, x4, x5, x6, x7, x8, x9, x10, x11, x12, x13, x14, x15, x16, x17, x18, x19, x20, x21, x22]) : ∀ xs : List T, xs.length = 23 → P xs := allS (f := True) fun x => all22 (P := fun xs => P (x :: xs)) (h x)
theorem all24 {P : List T → Prop} (h : ∀ x0 x1 x2 x3 x4 x5 x6 x7 x8 x9 x10 x11 x12 x13 x14 x15 x16 x17 x18 x19 x20 x21 x22 x23 : T, P [x0, x1, x2, x3, x4, x5, x6, x7, x8, x9, x10, x11, x12, x13, x14, x15, x16, x17, x18, x19, x20, x21, x22, x23]) : ∀ xs : List T, xs.length = 24 → P xs := allS (f := True) fun x => all23 (P := fun xs => P (x :: xs)) (h x)
theorem all25 {P : List T → Prop} (h : ∀ x0 x1 x2 x3 x4 x5 x6 x7 x8 x9 x10 x11 x12 x13 x14 x15 x16 x17 x18 x19 x20 x21 x22 x23 x24 : T, P [x0, x1, x2, x3, x4, x5, x6, x7, x8, x9, x10, x11, x12, x13, x14, x15, x16, x17, x18, x19, x20, x21, x22, x23, x24]) : ∀ xs : List T, xs.length = 25 → P xs := allS (f := True) fun x => all24 (P := fun xs => P (x :: xs)) (h x)
theorem all26 {P : List T → Prop} (h : ∀ x0 x1 x2 x3 x4 x5 x6 x7 x8 x9 x10 x11 x12 x13 x14 x15 x16 x17 x18 x19 x20 x21 x22 x23 x24 x25 : T, P [x0, x1, x2, x3, x4, x5, x6, x7, x8, x9, x10, x11, x12, x13, x14, x15, x16, x17, x18, x19, x20, x21, x22, x23, x24, x25]) : ∀ xs : List T, xs.length = 26 → P xs := allS (f := True) fun x => all25 (P := fun xs => P (x :: xs)) (h x)
theorem all27 {P : List T → Prop} (h : ∀ x0 x1 x2 x3 x4 x5 x6 x7 x8 x9 x10 x11 x12 x13 x14 x15 x16 x17 x18 x19 x20 x21 x22 x23 x24 x25 x26 : T, P [x0, x1, x2, x3, x4, x5, x6, x7, x8, x9, x10, x11, x12, x13, x14, x15, x16, x17, x18, x19, x20, x21, x22, x23, x24, x25, x26]) : ∀ xs : List T, xs.length = 27 → P xs := allS (f := True) fun x => all26 (P := fun xs => P (x :: xs)) (h x)
theorem all28 {P : List T → Prop} (h : ∀ x0 x1 x2 x3 x4 x5 x6 x7 x8 x9 x10 x11 x12 x13 x14 x15 x16 x17 x18 x19 x20 x21 x22 x23 x24 x25 x26 x27 : T, P [x0, x1, x2, x3, x4, x5, x6, x7, x8, x9, x10, x11, x12, x13, x14, x15, x16, x17, x18, x19, x20, x21, x22, x23, x24, x25, x26, x27]) : ∀ xs : List T, xs.length = 28 → P xs := allS (f := True) fun x => all27 (P := fun xs => P (x :: xs)) (h x)
theorem all29 {P : List T → Prop} (h : ∀ x0 x1 x2 x3 x4 x5 x6 x7 x8 x9 x10 x11 x12 x13 x14 x15 x16 x17 x18 x19 x20 x21 x22 x23 x24 x25 x26 x27 x28 : T, P [x0, x1, x2, x3, x4, x5, x6, x7, x8, x9, x10, x11, x12, x13, x14, x15, x16, x17, x18, x19, x20, x21, x22, x23, x24, x25, x26, x27, x28]) : ∀ xs : List T, xs.length = 29 → P xs := allS (f := True) fun x => all28 (P := fun xs => P (x :: xs)) (h x)
theorem all30 {P : List T → Prop} (h : ∀ x0 x1 x2 x3 x4 x5 x6 x7 x8 x9 x10 x11 x12 x13 x14 x15 x16 x17 x18 x19 x20 x21 x22 x23 x24 x25 x26 x27 x28 x29 : T, P [x0, x1, x2, x3, x4, x5, x6, x7, x8, x9, x10, x11, x12, x13, x14, x15, x16, x17, x18, x19, x20, x21, x22, x23, x24, x25, x26, x27, x28, x29]) : ∀ xs : List T, xs.length = 30 → P xs := allS (f := True) fun x => all29 (P := fun xs => P (x :: xs)) (h x)
theorem all31 {P : List T → Prop} (h : ∀ x0 x1 x2 x3 x4 x5 x6 x7 x8 x9 x10 x11 x12 x13 x14 x15 x16 x17 x18 x19 x20 x21 x22 x23 x24 x25 x26 x27 x28 x29 x30 : T, P [x0, x1, x2, x3, x4, x5, x6, x7, x8, x9, x10, x11, x12, x13, x14, x15, x16, x17, x18, x19, x20, x21, x22, x23, x24, x25, x26, x27, x28, x29, x30]) : ∀ xs : List T, xs.length = 31 → P xs := allS (f := True) fun x => all30 (P := fun xs => P (x :: xs)) (h x)
theorem all32 {P : List T → Prop} (h : ∀ x0 x1 x2 x3 x4 x5 x6 x7 x8 x9 x10 x11 x12 x13 x14 x15 x16 x17 x18 x19 x20 x21 x22 x23 x24 x25 x26 x27 x28 x29 x30 x31 : T, P [x0, x1, x2, x3, x4, x5, x6, x7, x8, x9, x10, x11, x12, x13, x14, x15, x16, x17, x18, x19, x20, x21, x22, x23, x24, x25, x26, x27, x28, x29, x30, x31]) : ∀ xs : List T, xs.length = 32 → P xs := allS (f := True) fun x => all31 (P := fun xs => P (x :: xs)) (h x)
theorem all33 {P : List T → Prop} (h : ∀ x0 x1 x2 x3 x4 x5 x6 x7 x8 x9 x10 x11 x12 x13 x14 x15 x16 x17 x18 x19 x20 x21 x22 x23 x24 x25 x26 x27 x28 x29 x30 x31 x32 : T, P [x0, x1, x2, x3, x4, x5, x6, x7, x8, x9, x10, x11, x12, x13, x14, x15, x16, x17, x18, x19, x20, x21, x22, x23, x24, x25, x26, x27, x28, x29, x30, x31, x32]) : ∀ xs : List T, xs.length = 33 → P xs := allS (f := True) fun x => all32 (P := fun xs => P (x :: xs)) (h x)
theorem all34 {P : List T → Prop} (h : ∀ x0 x1 x2 x3 x4 x5 x6 x7 x8 x9 x10 x11 x12 x13 x14 x15 x16 x17 x18 x19 x20 x21 x22 x23 x24 x25 x26 x27 x28 x29 x30 x31 x32 x33 : T, P [x0, x1, x2, x3, x4, x5, x6, x7, x8, x9, x10, x11, x12, x13, x14, x15, x16, x17, x18, x19, x20, x21, x22, x23, x24, x25, x26, x27, x28, x29, x30, x31, x32, x33]) : ∀ xs : List T, xs.length = 34 → P xs := allS (f := True) fun x => all33 (P := fun xs => P (x :: xs)) (h x)
theorem all35 {P : List T → Prop} (h : ∀ x0 x1 x2 x3 x4 x5 x6 x7 x8 x9 x10 x11 x12 x13 x14 x15 x16 x17 x18 x19 x20 x21 x22 x23 x24 x25 x26 x27 x28 x29 x30 x31 x32 x33 x34 : T, P [x0, x1, x2, x3, x4, x5, x6, x7, x8, x9, x10, x11, x12, x13, x14, x15, x16, x17, x18, x19, x20, x21, x22, x23, x24, x25, x26, x27, x28, x29, x30, x31, x32, x33, x34]) : ∀ xs : List T, xs.length = 35 → P xs := allS (f := True) fun x => all34 (P := fun xs => P (x :: xs)) (h x)
theorem all36 {P : List T → Prop} (h : ∀ x0 x1 x2 x3 x4 x5 x6 x7 x8 x9 x10 x11 x12 x13 x14 x15 x16 x17 x18 x19 x20 x21 x22 x23 x24 x25 x26 x27 x28 x29 x30 x31 x32 x33 x34 x35 : T, P [x0, x1, x2, x3, x4, x5, x6, x7, x8, x9, x10, x11, x12, x13, x14, x15, x16, x17, x18, x19, x20, x21, x22, x23, x24, x25, x26, x27, x28, x29, x30, x31, x32, x33, x34, x35]) : ∀ xs : List T, xs.length = 36 → P xs := allS (f := True) fun x => all35 (P := fun xs => P (x :: xs)) (h x)
theorem all37 {P : List T → Prop} (h : ∀ x0 x1 x2 x3 x4 x5 x6 x7 x8 x9 x10 x11 x12 x13 x14 x15 x16 x17 x18 x19 x20 x21 x22 x23 x24 x25 x26 x27 x28 x29 x30 x31 x32 x33 x34 x35 x36 : T, P [x0, x1, x2, x3, x4, x5, x6, x7, x8, x9, x10, x11, x12, x13, x14, x15, x16, x17, x18, x19, x20, x21, x22, x23, x24, x25, x26, x27, x28, x29, x30, x31, x32, x33, x34, x35, x36]) : ∀ xs : List T, xs.length = 37 → P xs := allS (f := True) fun x => all36 (P := fun xs => P (x :: xs)) (h x)
theorem all38 {P : List T → Prop} (h : ∀ x0 x1 x2 x3 x4 x5 x6 x7 x8 x9 x10 x11 x12 x13 x14 x15 x16 x17 x18 x19 x20 x21 x22 x23 x24 x25 x26 x27 x28 x29 x30 x31 x32 x33 x34 x35 x36 x37 : T, P [x0, x1, x2, x3, x4, x5, x6, x7, x8, x9, x10, x11, x12, x13, x14, x15, x16, x17, x18, x19, x20, x21, x22, x23, x24, x25, x26, x27, x28, x29, x30, x31, x32, x33, x34, x35, x36, x37]) : ∀ xs : List T, xs.length = 38 → P xs := allS (f := True) fun x => all37 (P := fun xs => P (x :: xs)) (h x)
theorem all39 {P : List T → Prop} (h : ∀ x0 x1 x2 x3 x4 x5 x6 x7 x8 x9 x10 x11 x12 x13 x14 x15 x16 x17 x18 x19 x20 x21 x22 x23 x24 x25 x26 x27 x28 x29 x30 x31 x32 x33 x34 x35 x36 x37 x38 : T, P [x0, x1, x2, x3, x4, x5, x6, x7, x8, x9, x10, x11, x12, x13, x14, x15, x16, x17, x18, x19, x20, x21, x22, x23, x24, x25, x26, x27, x28, x29, x30, x31, x32, x33, x34, x35, x36, x37, x38]) : ∀ xs : List T, xs.length = 39 → P xs := allS (f := True) fun x => all38 (P := fun xs => P (x :: xs)) (h x)
theorem all40 {P : List T → Prop} (h : ∀ x0 x1 x2 x3 x4 x5 x6 x7 x8 x9 x10 x11 x12 x13 x14 x15 x16 x17 x18 x19 x20 x21 x22 x23 x24 x25 x26 x27 x28 x29 x30 x31 x32 x33 x34 x35 x36 x37 x38 x39 : T, P [x0, x1, x2, x3, x4, x5, x6, x7, x8, x9, x10, x11, x12, x13, x14, x15, x16, x17, x18, x19, x20, x21, x22, x23, x24, x25, x26, x27, x28, x29, x30, x31, x32, x33, x34, x35, x36, x37, x38, x39]) : ∀ xs : List T, xs.length = 40 → P xs := allS (f := True) fun x => all39 (P := fun xs => P (x :: xs)) (h x)
theorem all41 {P : List T → Prop} (h : ∀ x0 x1 x2 x3 x4 x5 x6 x7 x8 x9 x10 x11 x12 x13 x14 x15 x16 x17 x18 x19 x20 x21 x22 x23 x24 x25 x26 x27 x28 x29 x30 x31 x32 x33 x34 x35 x36 x37 x38 x39 x40 : T, P [x0, x1, x2, x3, x4, x5, x6, x7, x8, x9, x10, x11, x12, x13, x14, x15, x16, x17, x18, x19, x20, x21, x22, x23, x24, x25, x26, x27, x28, x29, x30, x31, x32, x33, x34, x35, x36, x37, x38, x39, x40]) : ∀ xs : List T, xs.length = 41 → P xs := allS (f := True) fun x => all40 (P := fun xs => P (x :: xs)) (h x)
theorem all42 {P : List T → Prop} (h : ∀ x0 x1 x2 x3 x4 x5 x6 x7 x8 x9 x10 x11 x12 x13 x14 x15 x16 x17 x18 x19 x20 x21 x22 x23 x24 x25 x26 x27 x28 x29 x30 x31 x32 x33 x34 x35 x36 x37 x38 x39 x40 x41 : T, P [x0, x1, x2, x3, x4, x5, x6, x7, x8, x9, x10, x11, x12, x13, x14, x15, x16, x17, x18, x19, x20, x21, x22, x23, x24, x25, x26, x27, x28, x29, x30, x31, x32, x33, x34, x35, x36, x37, x38, x39, x40, x41]) : ∀ xs : List T, xs.length = 42 → P xs := allS (f := True) fun x => all41 (P := fun xs => P (x :: xs)) (h x)
theorem all43 {P : List T → Prop} (h : ∀ x0 x1 x2 x3 x4 x5 x6 x7 x8 x9 x10 x11 x12 x13 x14 x15 x16 x17 x18 x19 x20 x21 x22 x23 x24 x25 x26 x27 x28 x29 x30 x31 x32 x33 x34 x35 x36 x37 x38 x39 x40 x41 x42 : T, P [x0, x1, x2, x3, x4, x5, x6, x7, x8, x9, x10, x11, x12, x13, x14, x15, x16, x17, x18, x19, x20, x21, x22, x23, x24, x25, x26, x27, x28, x29, x30, x31, x32, x33, x34, x35, x36, x37, x38, x39, x40, x41, x42]) : ∀ xs : List T, xs.length = 43 → P xs := allS (f := True) fun x => all42 (P := fun xs => P (x :: xs)) (h x)
theorem all44 {P : List T → Prop} (h : ∀ x0 x1 x2 x3 x4 x5 x6 x7 x8 x9 x10 x11 x12 x13 x14 x15 x16 x17 x18 x19 x20 x21 x22 x23 x24 x25 x26 x27 x28 x29 x30 x31 x32 x33 x34 x35 x36 x37 x38 x39 x40 x41 x42 x43 : T, P [x0, x1, x2, x3, x4, x5, x6, x7, x8, x9, x10, x11, x12, x13, x14, x15, x16, x17, x18, x19, x20, x21, x22, x23, x24, x25, x26, x27, x28, x29, x30, x31, x32, x33, x34, x35, x36, x37, x38, x39, x40, x41, x42, x43]) : ∀ xs : List T, xs.length = 44 → P xs := allS (f := True) fun x => all43 (P := fun xs => P (x :: xs)) (h x)
theorem all45 {P : List T → Prop} (h : ∀ x0 x1 x2 x3 x4 x5 x6 x7 x8 x9 x10 x11 x12 x13 x14 x15 x16 x17 x18 x19 x20 x21 x22 x23 x24 x25 x26 x27 x28 x29 x30 x31 x32 x33 x34 x35 x36 x37 x38 x39 x40 x41 x42 x43 x44 : T, P [x0, x1, x2, x3, x4, x5, x6, x7, x8, x9, x10, x11, x12, x13, x14, x15, x16, x17, x18, x19, x20, x21, x22, x23, x24, x25, x26, x27, x28, x29, x30, x31, x32, x33, x34, x35, x36, x37, x38, x39, x40, x41, x42, x43, x44]) : ∀ xs : List T, xs.length = 45 → P xs := allS (f := True) fun x => all44 (P := fun xs => P (x :: xs)) (h x)
theorem all46 {P : List T → Prop} (h : ∀ x0 x1 x2 x3 x4 x5 x6 x7 x8 x9 x10 x11 x12 x13 x14 x15 x16 x17 x18 x19 x20 x21 x22 x23 x24 x25 x26 x27 x28 x29 x30 x31 x32 x33 x34 x35 x36 x37 x38 x39 x40 x41 x42 x43 x44 x45 : T, P [x0, x1, x2, x3, x4, x5, x6, x7, x8, x9, x10, x11, x12, x13, x14, x15, x16, x17, x18, x19, x20, x21, x22, x23, x24, x25, x26, x27, x28, x29, x30, x31, x32, x33, x34, x35, x36, x37, x38, x39, x40, x41, x42, x43, x44, x45]) : ∀ xs : List T, xs.length = 46 → P xs := allS (f := True) fun x => all45 (P := fun xs => P (x :: xs)) (h x)
theorem all47 {P : List T → Prop} (h : ∀ x0 x1 x2 x3 x4 x5 x6 x7 x8 x9 x10 x11 x12 x13 x14 x15 x16 x17 x18 x19 x20 x21 x22 x23 x24 x25 x26 x27 x28 x29 x30 x31 x32 x33 x34 x35 x36 x37 x38 x39 x40 x41 x42 x43 x44 x45 x46 : T, P [x0, x1, x2, x3, x4, x5, x6, x7, x8, x9, x10, x11, x12, x13, x14, x15, x16, x17, x18, x19, x20, x21, x22, x23, x24, x25, x26, x27, x28, x29, x30, x31, x32, x33, x34, x35, x36, x37, x38, x39, x40, x41, x42, x43, x44, x45, x46]) : ∀ xs : List T, xs.length = 47 → P xs := allS (f := True) fun x => all46 (P := fun xs => P (x :: xs)) (h x)
theorem all48 {P : List T → Prop} (h : ∀ x0 x1 x2 x3 x4 x5 x6 x7 x8 x9 x10 x11 x12 x13 x14 x15 x16 x17 x18 x19 x20 x21 x22 x23 x24 x25 x26 x27 x28 x29 x30 x31 x32 x33 x34 x35 x36 x37 x38 x39 x40 x41 x42 x43 x44 x45 x46 x47 : T, P [x0, x1, x2, x3, x4, x5, x6, x7, x8, x9, x10, x11, x12, x13, x14, x15, x16, x17, x18, x19, x20, x21, x22, x23, x24, x25, x26, x27, x28, x29, x30, x31, x32, x33, x34, x35, x36, x37, x38, x39, x40, x41, x42, x43, x44, x45, x46, x47]) : ∀ xs : List T, xs.length = 48 → P xs := allS (f := True) fun x => all47 (P := fun xs => P (x :: xs)) (h x)
theorem all49 {P : List T → Prop} (h : ∀ x0 x1 x2 x3 x4 x5 x6 x7 x8 x9 x10 x11 x12 x13 x14 x15 x16 x17 x18 x19 x20 x21 x22 x23 x24 x25 x26 x27 x28 x29 x30 x31 x32 x33 x34 x35 x36 x37 x38 x39 x40 x41 x42 x43 x44 x45 x46 x47 x48 : T, P [x0, x1, x2, x3, x4, x5, x6, x7, x8, x9, x10, x11, x12, x13, x14, x15, x16, x17, x18, x19, x20, x21, x22, x23, x24, x25, x26, x27, x28, x29, x30, x31, x32, x33, x34, x35, x36, x37, x38, x39, x40, x41, x42, x43, x44, x45, x46, x47, x48]) : ∀ xs : List T, xs.length = 49 → P xs := allS (f := True) fun x => all48 (P := fun xs => P (x :: xs)) (h x)
theorem all50 {P : List T → Prop} (h : ∀ x0 x1 x2 x3 x4 x5 x6 x7 x8 x9 x10 x11 x12 x13 x14 x15 x16 x17 x18 x19 x20 x21 x22 x23 x24 x25 x26 x27 x28 x29 x30 x31 x32 x33 x34 x35 x36 x37 x38 x39 x40 x41 x42 x43 x44 x45 x46 x47 x48 x49 : T, P [x0, x1, x2, x3, x4, x5, x6, x7, x8, x9, x10, x11, x12, x13, x14, x15, x16, x17, x18, x19, x20, x21, x22, x23, x24, x25, x26, x27, x28, x29, x30, x31, x32, x33, x34, x35, x36, x37, x38, x39, x40, x41, x42, x43, x44, x45, x46, x47, x48, x49]) : ∀ xs : List T, xs.length = 50 → P xs := allS (f := True) fun x => all49 (P := fun xs => P (x :: xs)) (h x)
theorem all51 {P : List T → Prop} (h : ∀ x0 x1 x2 x3 x4 x5 x6 x7 x8 x9 x10 x11 x12 x13 x14 x15 x16 x17 x18 x19 x20 x21 x22 x23 x24 x25 x26 x27 x28 x29 x30 x31 x32 x33 x34 x35 x36 x37 x38 x39 x40 x41 x42 x43 x44 x45 x46 x47 x48 x49 x50 : T, P [x0, x1, x2, x3, x4, x5, x6, x7, x8, x9, x10, x11, x12, x13, x14, x15, x16, x17, x18, x19, x20, x21, x22, x23, x24, x25, x26, x27, x28, x29, x30, x31, x32, x33, x34, x35, x36, x37, x38, x39, x40, x41, x42, x43, x44, x45, x46, x47, x48, x49, x50]) : ∀ xs : List T, xs.length = 51 → P xs := allS (f := True) fun x => all50 (P := fun xs => P (x :: xs)) (h x)
theorem all52 {P : List T → Prop} (h : ∀ x0 x1 x2 x3 x4 x5 x6 x7 x8 x9 x10 x11 x12 x13 x14 x15 x16 x17 x18 x19 x20 x21 x22 x23 x24 x25 x26 x27 x28 x29 x30 x31 x32 x33 x34 x35 x36 x37 x38 x39 x40 x41 x42 x43 x44 x45 x46 x47 x48 x49 x50 x51 : T, P [x0, x1, x2, x3, x4, x5, x6, x7, x8, x9, x10, x11, x12, x13, x14, x15, x16, x17, x18, x19, x20, x21, x22, x23, x24, x25, x26, x27, x28, x29, x30, x31, x32, x33, x34, x35, x36, x37, x38, x39, x40, x41, x42, x43, x44, x45, x46, x47, x48, x49, x50, x51]) : ∀ xs : List T, xs.length = 52 → P xs := allS (f := True) fun x => all51 (P := fun xs => P (x :: xs)) (h x)
theorem all53 {P : List T → Prop} (h : ∀ x0 x1 x2 x3 x4 x5 x6 x7 x8 x9 x10 x11 x12 x13 x14 x15 x16 x17 x18 x19 x20 x21 x22 x23 x24 x25 x26 x27 x28 x29 x30 x31 x32 x33 x34 x35 x36 x37 x38 x39 x40 x41 x42 x43 x44 x45 x46 x47 x48 x49 x50 x51 x52 : T, P [x0, x1, x2, x3, x4, x5, x6, x7, x8, x9, x10, x11, x12, x13, x14, x15, x16, x17, x18, x19, x20, x21, x22, x23, x24, x25, x26, x27, x28, x29, x30, x31, x32, x33, x34, x35, x36, x37, x38, x39, x40, x41, x42, x43, x44, x45, x46, x47, x48, x49, x50, x51, x52]) : ∀ xs : List T, xs.length = 53 → P xs := allS (f := True) fun x => all52 (P := fun xs => P (x :: xs)) (h x)
theorem all54 {P : List T → Prop} (h : ∀ x0 x1 x2 x3 x4 x5 x6 x7 x8 x9 x10 x11 x12 x13 x14 x15 x16 x17 x18 x19 x20 x21 x22 x23 x24 x25 x26 x27 x28 x29 x30 x31 x32 x33 x34 x35 x36 x37 x38 x39 x40 x41 x42 x43 x44 x45 x46 x47 x48 x49 x50 x51 x52 x53 : T, P [x0, x1, x2, x3, x4, x5, x6, x7, x8, x9, x10, x11, x12, x13, x14, x15, x16, x17, x18, x19, x20, x21, x22, x23, x24, x25, x26, x27, x28, x29, x30, x31, x32, x33, x34, x35, x36, x37, x38, x39, x40, x41, x42, x43, x44, x45, x46, x47, x48, x49, x50, x51, x52, x53]) : ∀ xs : List T, xs.length = 54 → P xs := allS (f := True) fun x => all53 (P := fun xs => P (x :: xs)) (h x)
theorem all55 {P : List T → Prop} (h : ∀ x0 x1 x2 x3 x4 x5 x6 x7 x8 x9 x10 x11 x12 x13 x14 x15 x16 x17 x18 x19 x20 x21 x22 x23 x24 x25 x26 x27 x28 x29 x30 x31 x32 x33 x34 x35 x36 x37 x38 x39 x40 x41 x42 x43 x44 x45 x46 x47 x48 x49 x50 x51 x52 x53 x54 : T, P [x0, x1, x2, x3, x4, x5, x6, x7, x8, x9, x10, x11, x12, x13, x14, x15, x16, x17, x18, x19, x20, x21, x22, x23, x24, x25, x26, x27, x28, x29, x30, x31, x32, x33, x34, x35, x36, x37, x38, x39, x40, x41, x42, x43, x44, x45, x46, x47, x48, x49, x50, x51, x52, x53, x54]) : ∀ xs : List T, xs.length = 55 → P xs := allS (f := True) fun x => all54 (P := fun xs => P (x :: xs)) (h x)
theorem all56 {P : List T → Prop} (h : ∀ x0 x1 x2 x3 x4 x5 x6 x7 x8 x9 x10 x11 x12 x13 x14 x15 x16 x17 x18 x19 x20 x21 x22 x23 x24 x25 x26 x27 x28 x29 x30 x31 x32 x33 x34 x35 x36 x37 x38 x39 x40 x41 x42 x43 x44 x45 x46 x47 x48 x49 x50 x51 x52 x53 x54 x55 : T, P [x0, x1, x2, x3, x4, x5, x6, x7, x8, x9, x10, x11, x12, x13, x14, x15, x16, x17, x18, x19, x20, x21, x22, x23, x24, x25, x26, x27, x28, x29, x30, x31, x32, x33, x34, x35, x36, x37, x38, x39, x40, x41, x42, x43, x44, x45, x46, x47, x48, x49, x50, x51, x52, x53, x54, x55]) : ∀ xs : List T, xs.length = 56 → P xs := allS (f := True) fun x => all55 (P := fun xs => P (x :: xs)) (h x)
theorem all57 {P : List T → Prop} (h : ∀ x0 x1 x2 x3 x4 x5 x6 x7 x8 x9 x10 x11 x12 x13 x14 x15 x16 x17 x18 x19 x20 x21 x22 x23 x24 x25 x26 x27 x28 x29 x30 x31 x32 x33 x34 x35 x36 x37 x38 x39 x40 x41 x42 x43 x44 x45 x46 x47 x48 x49 x50 x51 x52 x53 x54 x55 x56 : T, P [x0, x1, x2, x3, x4, x5, x6, x7, x8, x9, x10, x11, x12, x13, x14, x15, x16, x17, x18, x19, x20, x21, x22, x23, x24, x25, x26, x27, x28, x29, x30, x31, x32, x33, x34, x35, x36, x37, x38, x39, x40, x41, x42, x43, x44, x45, x46, x47, x48, x49, x50, x51, x52, x53, x54, x55, x56]) : ∀ xs : List T, xs.length = 57 → P xs := allS (f := True) fun x => all56 (P := fun xs => P (x :: xs)) (h x)
theorem all58 {P : List T → Prop} (h : ∀ x0 x1 x2 x3 x4 x5 x6 x7 x8 x9 x10 x11 x12 x13 x14 x15 x16 x17 x18 x19 x20 x21 x22 x23 x24 x25 x26 x27 x28 x29 x30 x31 x32 x33 x34 x35 x36 x37 x38 x39 x40 x41 x42 x43 x44 x45 x46 x47 x48 x49 x50 x51 x52 x53 x54 x55 x56 x57 : T, P [x0, x1, x2, x3, x4, x5, x6, x7, x8, x9, x10, x11, x12, x13, x14, x15, x16, x17, x18, x19, x20, x21, x22, x23, x24, x25, x26, x27, x28, x29, x30, x31, x32, x33, x34, x35, x36, x37, x38, x39, x40, x41, x42, x43, x44, x45, x46, x47, x48, x49, x50, x51, x52, x53, x54, x55, x56, x57]) : ∀ xs : List T, xs.length = 58 → P xs := allS (f := True) fun x => all57 (P := fun xs => P (x :: xs)) (h x)
theorem all59 {P : List T → Prop} (h : ∀ x0 x1 x2 x3 x4 x5 x6 x7 x8 x9 x10 x11 x12 x13 x14 x15 x16 x17 x18 x19 x20 x21 x22 x23 x24 x25 x26 x27 x28 x29 x30 x31 x32 x33 x34 x35 x36 x37 x38 x39 x40 x41 x42 x43 x44 x45 x46 x47 x48 x49 x50 x51 x52 x53 x54 x55 x56 x57 x58 : T, P [x0, x1, x2, x3, x4, x5, x6, x7, x8, x9, x10, x11, x12, x13, x14, x15, x16, x17, x18, x19, x20, x21, x22, x23, x24, x25, x26, x27, x28, x29, x30, x31, x32, x33, x34, x35, x36, x37, x38, x39, x40, x41, x42, x43, x44, x45, x46, x47, x48, x49, x50, x51, x52, x53, x54, x55, x56, x57, x58]) : ∀ xs : List T, xs.length = 59 → P xs := allS (f := True) fun x => all58 (P := fun xs => P (x :: xs)) (h x)
theorem all60 {P : List T → Prop} (h : ∀ x0 x1 x2 x3 x4 x5 x6 x7 x8 x9 x10 x11 x12 x13 x14 x15 x16 x17 x18 x19 x20 x21 x22 x23 x24 x25 x26 x27 x28 x29 x30 x31 x32 x33 x34 x35 x36 x37 x38 x39 x40 x41 x42 x43 x44 x45 x46 x47 x48 x49 x50 x51 x52 x53 x54 x55 x56 x57 x58 x59 : T, P [x0, x1, x2, x3, x4, x5, x6, x7, x8, x9, x10, x11, x12, x13, x14, x15, x16, x17, x18, x19, x20, x21, x22, x23, x24, x25, x26, x27, x28, x29, x30, x31, x32, x33, x34, x35, x36, x37, x38, x39, x40, x41, x42, x43, x44, x45, x46, x47, x48, x49, x50, x51, x52, x53, x54, x55, x56, x57, x58, x59]) : ∀ xs : List T, xs.length = 60 → P xs := allS (f := True) fun x => all59 (P := fun xs => P (x :: xs)) (h x)
end Go.TI

/- Calls that were carried out before: a table of them. -/
namespace Go.TI
set_option linter.unusedVariables false

mutual
def eqV : T → T → Bool
  | .undef, b => (match b with | .undef => true | _ => false)
  | .bool x, b => (match b with | .bool y => Bool.casesOn x (!y) y | _ => false)
  | .int k n, b => (match b with | .int k' n' => decide (k = k') && decide (n = n') | _ => false)
  | .str s, b => (match b with | .str s' => decide (s = s') | _ => false)
  | .nilp, b => (match b with | .nilp => true | _ => false)
  | .nilf, b => (match b with | .nilf => true | _ => false)
  | .nili, b => (match b with | .nili => true | _ => false)
  | .nilm, b => (match b with | .nilm => true | _ => false)
  | .ewild, b => (match b with | .ewild => true | _ => false)
  | .ptr b ep i j, c => (match c with | .ptr b' ep' i' j' => Nat.beq b b' && Nat.beq ep ep' && Nat.beq i i' && Nat.beq j j' | _ => false)
  | .arr b ep i j f, c => (match c with | .arr b' ep' i' j' f' => Nat.beq b b' && Nat.beq ep ep' && Nat.beq i i' && Nat.beq j j' && Bool.casesOn f (!f') f' | _ => false)
  | .map b, c => (match c with | .map b' => Nat.beq b b' | _ => false)
  | .tree es f, c => (match c with | .tree es' f' => eqVs es es' && Bool.casesOn f (!f') f' | _ => false)
  | .agg es, c => (match c with | .agg es' => eqVs es es' | _ => false)
  | .func f es, c => (match c with | .func f' es' => Nat.beq f f' && eqVs es es' | _ => false)
  | .iface t v, c => (match c with | .iface t' v' => Nat.beq t t' && eqV v v' | _ => false)
  | _, _ => false
def eqVs : List T → List T → Bool
  | [], b => (match b with | [] => true | _ => false)
  | x :: xs, b => (match b with | y :: ys => eqV x y && eqVs xs ys | _ => false)
end

theorem boolEq {x y : Bool} (h : (@Bool.rec (fun _ => Bool) (!y) y x) = true) : x = y := by cases x <;> cases y <;> simp_all

mutual
theorem eqV_eq : (a b : T) → eqV a b = true → a = b
  | .undef, b, h => by cases b <;> first | rfl | simp [eqV] at h
  | .bool x, b, h => by
    cases b <;> first | (simp [eqV] at h; done) | skip
    rename_i y
    have h : (@Bool.rec (fun _ => Bool) (!y) y x) = true := by unfold eqV at h; exact h
    rw [boolEq h]
  | .int k n, b, h => by cases b <;> simp [eqV] at h; obtain ⟨rfl, rfl⟩ := h; rfl
  | .str s, b, h => by cases b <;> simp [eqV] at h; subst h; rfl
  | .nilp, b, h => by cases b <;> first | rfl | simp [eqV] at h
  | .nilf, b, h => by cases b <;> first | rfl | simp [eqV] at h
  | .nili, b, h => by cases b <;> first | rfl | simp [eqV] at h
  | .nilm, b, h => by cases b <;> first | rfl | simp [eqV] at h
  | .ewild, b, h => by cases b <;> first | rfl | simp [eqV] at h
  | .ptr b ep i j, c, h => by cases c <;> simp [eqV] at h; obtain ⟨⟨⟨rfl, rfl⟩, rfl⟩, rfl⟩ := h; rfl
  | .arr b ep i j f, c, h => by
    cases c <;> first | (simp [eqV] at h; done) | skip
    rename_i b' ep' i' j' f'
    have h : (Nat.beq b b' && Nat.beq ep ep' && Nat.beq i i' && Nat.beq j j' && @Bool.rec (fun _ => Bool) (!f') f' f) = true := by unfold eqV at h; exact h
    simp only [Bool.and_eq_true] at h
    obtain ⟨⟨⟨⟨h1, h2⟩, h3⟩, h4⟩, h5⟩ := h
    rw [Nat.eq_of_beq_eq_true h1, Nat.eq_of_beq_eq_true h2, Nat.eq_of_beq_eq_true h3, Nat.eq_of_beq_eq_true h4, boolEq h5]
  | .map b, c, h => by cases c <;> simp [eqV] at h; subst h; rfl
  | .tree es f, c, h => by
    cases c <;> first | (simp [eqV] at h; done) | skip
    rename_i es' f'
    have h : (eqVs es es' && @Bool.rec (fun _ => Bool) (!f') f' f) = true := by unfold eqV at h; exact h
    simp only [Bool.and_eq_true] at h
    rw [eqVs_eq es es' h.1, boolEq h.2]
  | .agg es, c, h => by
    cases c <;> first | (simp [eqV] at h; done) | skip
    rename_i es'
    have h : eqVs es es' = true := by unfold eqV at h; exact h
    rw [eqVs_eq es es' h]
  | .func f es, c, h => by
    cases c <;> first | (simp [eqV] at h; done) | skip
    rename_i f' es'
    have h : (Nat.beq f f' && eqVs es es') = true := by unfold eqV at h; exact h
    simp only [Bool.and_eq_true] at h
    rw [Nat.eq_of_beq_eq_true h.1, eqVs_eq es es' h.2]
  | .iface t v, c, h => by
    cases c <;> first | (simp [eqV] at h; done) | skip
    rename_i t' v'
    have h : (Nat.beq t t' && eqV v v') = true := by unfold eqV at h; exact h
    simp only [Bool.and_eq_true] at h
    rw [Nat.eq_of_beq_eq_true h.1, eqV_eq v v' h.2]
  | .tptr _, b, h => by simp [eqV] at h
  | .iter _, b, h => by simp [eqV] at h
  | .tuple _, b, h => by simp [eqV] at h
theorem eqVs_eq : (a b : List T) → eqVs a b = true → a = b
  | [], b, h => by cases b <;> first | rfl | simp [eqVs] at h
  | x :: xs, b, h => by
    cases b <;> first | (simp [eqVs] at h; done) | skip
    rename_i y ys
    have h : (eqV x y && eqVs xs ys) = true := by unfold eqVs at h; exact h
    simp only [Bool.and_eq_true] at h
    rw [eqV_eq x y h.1, eqVs_eq xs ys h.2]
end

def eqBox (a b : Box) : Bool := Nat.beq a.sz b.sz && Nat.beq a.ep b.ep && Nat.beq a.ver b.ver && Bool.casesOn a.exact (!b.exact) b.exact && Bool.casesOn a.it (!b.it) b.it && eqVs a.elems b.elems
theorem eqBox_eq {a b : Box} (h : eqBox a b = true) : a = b := by
  obtain ⟨a1, a2, a3, a4, a5, a6⟩ := a
  obtain ⟨b1, b2, b3, b4, b5, b6⟩ := b
  have h : (Nat.beq a1 b1 && Nat.beq a2 b2 && Nat.beq a3 b3 && @Bool.rec (fun _ => Bool) (!b4) b4 a4 && @Bool.rec (fun _ => Bool) (!b5) b5 a5 && eqVs a6 b6) = true := h
  simp only [Bool.and_eq_true] at h
  obtain ⟨⟨⟨⟨⟨h1, h2⟩, h3⟩, h4⟩, h5⟩, h6⟩ := h
  rw [Nat.eq_of_beq_eq_true h1, Nat.eq_of_beq_eq_true h2, Nat.eq_of_beq_eq_true h3, boolEq h4, boolEq h5, eqVs_eq _ _ h6]
def eqBoxes : List Box → List Box → Bool
  | [], b => (match b with | [] => true | _ => false)
  | x :: xs, b => (match b with | y :: ys => eqBox x y && eqBoxes xs ys | _ => false)
theorem eqBoxes_eq : ∀ (a b : List Box), eqBoxes a b = true → a = b := by
  intro a
  induction a with
  | nil => intro b h; cases b <;> first | rfl | simp [eqBoxes] at h
  | cons x xs ih =>
    intro b h
    cases b with
    | nil => simp [eqBoxes] at h
    | cons y ys =>
      simp only [eqBoxes, Bool.and_eq_true] at h
      rw [eqBox_eq h.1, ih ys h.2]
def eqH (a b : H) : Bool := Nat.beq a.size b.size && Nat.beq a.low b.low && eqBoxes a.boxes b.boxes
theorem eqH_eq {a b : H} (h : eqH a b = true) : a = b := by
  obtain ⟨a1, a2, a3⟩ := a
  obtain ⟨b1, b2, b3⟩ := b
  have h : (Nat.beq a1 b1 && Nat.beq a2 b2 && eqBoxes a3 b3) = true := h
  simp only [Bool.and_eq_true] at h
  rw [Nat.eq_of_beq_eq_true h.1.1, Nat.eq_of_beq_eq_true h.1.2, eqBoxes_eq _ _ h.2]

/-- A call that was carried out. -/
structure Ent where
  f : Nat
  args : List T
  h : H
  r : T
  h' : H

noncomputable def findE (es : List Ent) (f : Nat) (args : List T) (h : H) : Option (T × H) :=
  @List.rec Ent (fun _ => Option (T × H)) none (fun e _ ih => Ent.casesOn e fun f' args' h1 r h2 =>
    @Bool.rec (fun _ => Option (T × H)) ih (@Bool.rec (fun _ => Option (T × H)) ih (@Bool.rec (fun _ => Option (T × H)) ih (some (r, h2)) (eqH h h1)) (eqVs args args')) (Nat.beq f f')) es

def CallAt (P : Program) (cx : Ctx) (e : Ent) : Prop :=
  ∀ base w μ (cargs : Array Value), St cx base w.heap μ e.h → RelL w.heap μ e.args cargs.toList → Ran P (AfterG cx base w μ e.h e.r e.h') ((callFunc e.f cargs).run P w)

inductive EntsOk (P : Program) (cx : Ctx) : List Ent → Prop where
  | nil : EntsOk P cx []
  | cons {e : Ent} {es : List Ent} : CallAt P cx e → EntsOk P cx es → EntsOk P cx (e :: es)

theorem findE_ok {P : Program} {cx : Ctx} {es : List Ent} (he : EntsOk P cx es) {f : Nat} {args : List T} {h : H} {r : T} {h' : H} (hh : findE es f args h = some (r, h')) : CallAt P cx ⟨f, args, h, r, h'⟩ := by
  induction he with
  | nil => simp [findE] at hh
  | cons hc _ ih =>
    rename_i e es _
    obtain ⟨f', args', h1, r1, h2⟩ := e
    have hh : @Bool.rec (fun _ => Option (T × H)) (findE es f args h) (@Bool.rec (fun _ => Option (T × H)) (findE es f args h) (@Bool.rec (fun _ => Option (T × H)) (findE es f args h) (some (r1, h2)) (eqH h h1)) (eqVs args args')) (Nat.beq f f') = some (r, h') := hh
    cases b1 : Nat.beq f f' with
    | false => rw [b1] at hh; exact ih hh
    | true =>
      cases b2 : eqVs args args' with
      | false => rw [b1, b2] at hh; exact ih hh
      | true =>
        cases b3 : eqH h h1 with
        | false => rw [b1, b2, b3] at hh; exact ih hh
        | true =>
          rw [b1, b2, b3] at hh
          have hh : some (r1, h2) = some (r, h') := hh
          simp only [Option.some.injEq, Prod.mk.injEq] at hh
          obtain ⟨rfl, rfl⟩ := hh
          rw [Nat.eq_of_beq_eq_true b1, eqVs_eq _ _ b2, eqH_eq b3]
          exact hc

noncomputable def memo (es : List Ent) (ft : FuncId → Option Quick) : FuncId → Option Quick := fun f =>
  Option.casesOn (ft f) none fun g => some fun cf n args h => Option.casesOn (findE es f args h) (g cf n args h) fun p => some p

theorem memo_ok {P : Program} {cx : Ctx} {es : List Ent} {ft : FuncId → Option Quick} (he : EntsOk P cx es) (hq : ∀ f g, ft f = some g → QuickOk P cx f g) : ∀ f g, memo es ft f = some g → QuickOk P cx f g := by
  intro f g hg
  unfold memo at hg
  cases hf : ft f with
  | none => rw [hf] at hg; simp at hg
  | some g0 =>
    rw [hf] at hg
    simp only [Option.some.injEq] at hg
    subst hg
    intro cf ck n args h r h' hh base w μ cargs s hL
    have hh : @Option.rec (T × H) (fun _ => Option (T × H)) (g0 cf n args h) (fun p => some p) (findE es f args h) = some (r, h') := hh
    cases hE : findE es f args h with
    | none => rw [hE] at hh; exact hq f g0 hf cf ck n args h r h' hh base w μ cargs s hL
    | some p =>
      rw [hE] at hh
      have hh : some p = some (r, h') := hh
      simp only [Option.some.injEq] at hh
      subst hh
      exact findE_ok he hE base w μ cargs s hL

noncomputable def callM (es : List Ent) (ft : FuncId → Option Quick) (n : Nat) : CallF := callF (memo es ft) n

theorem callM_ok {P : Program} {cx : Ctx} {es : List Ent} {ft : FuncId → Option Quick} (he : EntsOk P cx es) (hq : ∀ f g, ft f = some g → QuickOk P cx f g) (n : Nat) : CallOk P cx (callM es ft n) := callF_sound (memo_ok he hq) n

/-- The next call into the table. -/
theorem EntsOk.next {P : Program} {cx : Ctx} {es : List Ent} {ft : FuncId → Option Quick} (he : EntsOk P cx es) (hq : ∀ f g, ft f = some g → QuickOk P cx f g) {n : Nat} {e : Ent} (hh : callM es ft n e.f e.args e.h = some (e.r, e.h')) : EntsOk P cx (e :: es) :=
  .cons (fun base w μ cargs s hL => callM_ok he hq n e.f e.args e.h e.r e.h' hh base w μ cargs s hL) he
end Go.TI

/- Calls that look at no box stand at every heap: a table of them. -/
namespace Go.TI
set_option linter.unusedVariables false

mutual
def lowB : T → Bool
  | .undef | .bool _ | .int _ _ | .str _ | .nilp | .ewild | .nilf | .nili | .nilm => true
  | .tree es _ => lowBs es
  | .agg es => lowBs es
  | .tuple es => lowBs es
  | .tptr es => lowBs es
  | .func _ es => lowBs es
  | .iface _ v => lowB v
  | _ => false
def lowBs : List T → Bool
  | [] => true
  | x :: xs => lowB x && lowBs xs
end

mutual
theorem lowB_low : (v : T) → lowB v = true → Low 0 v
  | .undef, _ => .undef
  | .bool _, _ => .bool _
  | .int _ _, _ => .int _ _
  | .str _, _ => .str _
  | .nilp, _ => .nilp
  | .ewild, _ => .ewild
  | .nilf, _ => .nilf
  | .nili, _ => .nili
  | .nilm, _ => .nilm
  | .tree es f, h => .tree _ _ fun v hv => by
      obtain ⟨e, he, hx⟩ := List.mem_flatMap.1 hv
      exact (lowBs_low es (by unfold lowB at h; exact h) e he).cells v hx
  | .agg es, h => .agg _ (lowBs_low es (by unfold lowB at h; exact h))
  | .tuple es, h => .tuple _ (lowBs_low es (by unfold lowB at h; exact h))
  | .tptr es, h => .tptr _ (lowBs_low es (by unfold lowB at h; exact h))
  | .func _ es, h => .func _ _ (lowBs_low es (by unfold lowB at h; exact h))
  | .iface _ v, h => .iface _ _ (lowB_low v (by unfold lowB at h; exact h))
  | .ptr _ _ _ _, h => by simp [lowB] at h
  | .arr _ _ _ _ _, h => by simp [lowB] at h
  | .iter _, h => by simp [lowB] at h
  | .map _, h => by simp [lowB] at h
theorem lowBs_low : (l : List T) → lowBs l = true → ∀ v ∈ l, Low 0 v
  | [], _ => fun v hv => by simp at hv
  | x :: xs, h => fun v hv => by
      unfold lowBs at h
      rw [Bool.and_eq_true] at h
      have h1 := lowB_low x h.1
      rcases List.mem_cons.1 hv with k | hv
      · rw [k]; exact h1
      · exact lowBs_low xs h.2 v hv
end

/-- What leads to no box stands under every lay of the boxes that leaves its blocks alone. -/
theorem RelV.move {hp : Array Obj} {μ μ' : Mu} {v : T} {c : Value} (h : RelV hp μ v c) (hm : ∀ i, InMu μ' i → InMu μ i) (hl : Low 0 v) : RelV hp μ' v c := by
  induction h with
  | undef => exact .undef
  | bool b => exact .bool b
  | int k m => exact .int k m
  | str s h => exact .str s h
  | nilp => exact .nilp
  | ptr b ep i j L a hb he ha => cases hl with | ptr _ _ _ _ h => omega
  | tptr cells blk off arr t fz hn hh hs hc hr ih =>
    cases hl with | tptr _ h => exact .tptr cells blk off arr t fz (fun k => hn (hm _ k)) hh hs hc fun k v hk => ih k v hk (h v (List.mem_of_getElem? hk))
  | tree0 full a => exact .tree0 full a
  | tree e es full blk off cap sz arr t fz hn hh hl' hf hu hs hc hr ih =>
    cases hl with | tree _ _ h => exact .tree e es full blk off cap sz arr t fz (fun k => hn (hm _ k)) hh hl' hf hu hs hc fun k v hk => ih k v hk (h v (List.mem_of_getElem? hk))
  | ewild a cap => exact .ewild a cap
  | arr b ep o l full L a cp hb he hl' h' => cases hl with | arr _ _ _ _ _ h => omega
  | func f caps cs hs hr ih => cases hl with | func _ _ h => exact .func f caps cs hs fun k v hk => ih k v hk (h v (List.mem_of_getElem? hk))
  | nilf => exact .nilf
  | nili => exact .nili
  | iface t v c h ih => cases hl with | iface _ _ h => exact .iface t v c (ih h)
  | iter b L a hb h' => cases hl with | iter _ h => omega
  | map b L i hb h' => cases hl with | map _ h => omega
  | nilm => exact .nilm
  | agg cells cs hs hc hr ih => cases hl with | agg _ h => exact .agg cells cs hs hc fun k v hk => ih k v hk (h v (List.mem_of_getElem? hk))
  | tuple vs cs hs hr ih => cases hl with | tuple _ h => exact .tuple vs cs hs fun k v hk => ih k v hk (h v (List.mem_of_getElem? hk))

def PureAt (P : Program) (cx : Ctx) (f : Nat) (args : List T) (r : T) : Prop :=
  ∀ base w μ (cargs : Array Value) (h : H), St cx base w.heap μ h → RelL w.heap μ args cargs.toList → Ran P (AfterG cx base w μ h r h) ((callFunc f cargs).run P w)

theorem pure_of {P : Program} {cx : Ctx} {f : Nat} {args : List T} {r : T} (hl : ∀ v ∈ args, Low 0 v) (hc : CallAt P cx ⟨f, args, ⟨0, 0, []⟩, r, ⟨0, 0, []⟩⟩) : PureAt P cx f args r := by
  intro base w μ cargs h s hL
  have hin : ∀ i, InMu ⟨fun _ => none, InMu μ⟩ i → InMu μ i := by
    rintro i (⟨b, L, hb, _⟩ | hr)
    · simp at hb
    · exact hr
  have hlt : ∀ i, InMu μ i → i < w.heap.size := by
    rintro i (⟨b, L, hb, rfl⟩ | hr)
    · exact s.lt hb
    · exact s.resLt i hr
  have s0 : St cx w.heap.size w.heap ⟨fun _ => none, InMu μ⟩ ⟨0, 0, []⟩ := by
    refine ⟨rfl, Nat.le_refl _, fun b L hb => by simp at hb, fun b b' L L' hb => by simp at hb, fun b L hb => by simp at hb, fun b L hb => by simp at hb, fun i hr => hlt i hr, fun g cs hg => ?_⟩
    have := s.glob g cs hg
    refine this.move hin ?_
    obtain ⟨_, _, _, _, _, _, _, _, _, hsh, _⟩ := this.inv_tptr
    exact .tptr _ fun v hv => (hsh v hv).2.low 0
  have hL0 : RelL w.heap ⟨fun _ => none, InMu μ⟩ args cargs.toList := ⟨hL.1, fun k v hv => (hL.2 k v hv).move hin (hl v (List.mem_of_getElem? hv))⟩
  refine (hc w.heap.size w ⟨fun _ => none, InMu μ⟩ cargs s0 hL0).mono fun v w' ⟨⟨μ1, k1, k2, k3, k4⟩, k5⟩ => ?_
  have hres : ∀ i, InMu μ i → InMu μ1 i := fun i hi => .inr (by rw [k3.ext.res]; exact hi)
  have hext : Ext w.heap μ w'.heap μ := by
    refine ⟨k3.ext.size, fun i hi hn => ⟨(k3.ext.old i hi (fun k => hn (hin i k))).1, hn⟩, fun b L hb => ⟨L, hb, .inl rfl⟩, rfl, fun i hi hr => ?_⟩
    exact k3.ext.kept i hi (.inr hr)
  have hblk : ∀ b L, μ b = some L → w'.heap[L.blk]? = w.heap[L.blk]? := fun b L hb => k3.ext.kept L.blk (s.lt hb) (.inl ⟨b, L, hb, rfl⟩)
  refine ⟨⟨μ, k1.move hres (k1.low fun b L hb => k2.get_lt hb), ⟨s.wf, Nat.le_trans s.fit k3.ext.size, fun b L hb => ?_, s.inj, s.low, s.apart, fun i hr => Nat.lt_of_lt_of_le (s.resLt i hr) k3.ext.size, fun g cs hg => (s.glob g cs hg).ext hext⟩, ⟨hext, k3.os, k3.tape, k3.output⟩, Dom.refl _ _⟩, Grow.refl s.wf⟩
  obtain ⟨x, hx, hok⟩ := s.box b L hb
  exact ⟨x, hx, hok.ext hext (hblk b L hb)⟩

/-- Lists of values, the last first. -/
def eqVsR : List T → List T → Bool
  | [], b => (match b with | [] => true | _ => false)
  | x :: xs, b => (match b with | y :: ys => eqVsR xs ys && eqV x y | _ => false)
theorem eqVsR_eq : ∀ (a b : List T), eqVsR a b = true → a = b := by
  intro a
  induction a with
  | nil => intro b h; cases b <;> first | rfl | simp [eqVsR] at h
  | cons x xs ih =>
    intro b h
    cases b with
    | nil => simp [eqVsR] at h
    | cons y ys =>
      simp only [eqVsR, Bool.and_eq_true] at h
      rw [eqV_eq _ _ h.2, ih ys h.1]

abbrev PTab := List (Nat × List (List T × T))

noncomputable def findA (l : List (List T × T)) (args : List T) : Option T :=
  @List.rec (List T × T) (fun _ => Option T) none (fun e _ ih => Prod.casesOn e fun a r => @Bool.rec (fun _ => Option T) ih (some r) (eqVsR args a)) l
noncomputable def findP (t : PTab) (f : Nat) (args : List T) : Option T :=
  @List.rec (Nat × List (List T × T)) (fun _ => Option T) none (fun e _ ih => Prod.casesOn e fun f' l => @Bool.rec (fun _ => Option T) ih (Option.casesOn (findA l args) ih fun r => some r) (Nat.beq f f')) t

inductive POk (P : Program) (cx : Ctx) : PTab → Prop where
  | nil : POk P cx []
  | new {f : Nat} {t : PTab} : POk P cx t → POk P cx ((f, []) :: t)
  | ent {f : Nat} {a : List T} {r : T} {l : List (List T × T)} {t : PTab} : PureAt P cx f a r → POk P cx ((f, l) :: t) → POk P cx ((f, (a, r) :: l) :: t)

theorem POk.mem {P : Program} {cx : Ctx} {t : PTab} (h : POk P cx t) : ∀ f l, (f, l) ∈ t → ∀ a r, (a, r) ∈ l → PureAt P cx f a r := by
  induction h with
  | nil => intro f l h; simp at h
  | new _ ih =>
    intro f l h a r hr
    rcases List.mem_cons.1 h with k | k
    · simp only [Prod.mk.injEq] at k; obtain ⟨_, rfl⟩ := k; simp at hr
    · exact ih f l k a r hr
  | ent hp _ ih =>
    intro f l h a r hr
    rcases List.mem_cons.1 h with k | k
    · simp only [Prod.mk.injEq] at k; obtain ⟨rfl, rfl⟩ := k
      rcases List.mem_cons.1 hr with q | q
      · simp only [Prod.mk.injEq] at q; obtain ⟨rfl, rfl⟩ := q; exact hp
      · exact ih _ _ (List.mem_cons_self ..) a r q
    · exact ih f l (List.mem_cons_of_mem _ k) a r hr

theorem findA_mem {l : List (List T × T)} {args : List T} {r : T} (hh : findA l args = some r) : (args, r) ∈ l := by
  induction l with
  | nil => simp [findA] at hh
  | cons e l ih =>
    obtain ⟨a, r1⟩ := e
    have hh : @Bool.rec (fun _ => Option T) (findA l args) (some r1) (eqVsR args a) = some r := hh
    cases hb : eqVsR args a with
    | false => rw [hb] at hh; exact List.mem_cons_of_mem _ (ih hh)
    | true =>
      rw [hb] at hh
      have hh : some r1 = some r := hh
      simp only [Option.some.injEq] at hh; subst hh
      rw [eqVsR_eq _ _ hb]; exact List.mem_cons_self ..

theorem findP_mem {t : PTab} {f : Nat} {args : List T} {r : T} (hh : findP t f args = some r) : ∃ l, (f, l) ∈ t ∧ (args, r) ∈ l := by
  induction t with
  | nil => simp [findP] at hh
  | cons e t ih =>
    obtain ⟨f', l⟩ := e
    have hh : @Bool.rec (fun _ => Option T) (findP t f args) (@Option.rec T (fun _ => Option T) (findP t f args) (fun r => some r) (findA l args)) (Nat.beq f f') = some r := hh
    have rest : findP t f args = some r → ∃ l', (f, l') ∈ (f', l) :: t ∧ (args, r) ∈ l' := fun k => by
      obtain ⟨l', h1, h2⟩ := ih k
      exact ⟨l', List.mem_cons_of_mem _ h1, h2⟩
    cases hb : Nat.beq f f' with
    | false => rw [hb] at hh; exact rest hh
    | true =>
      rw [hb] at hh
      cases hA : findA l args with
      | none => rw [hA] at hh; exact rest hh
      | some q =>
        rw [hA] at hh
        have hh : some q = some r := hh
        simp only [Option.some.injEq] at hh; subst hh
        rw [Nat.eq_of_beq_eq_true hb]
        exact ⟨l, List.mem_cons_self .., findA_mem hA⟩

noncomputable def memoP (t : PTab) (ft : FuncId → Option Quick) : FuncId → Option Quick := fun f =>
  Option.casesOn (ft f) none fun g => some fun cf n args h => Option.casesOn (findP t f args) (g cf n args h) fun r => some (r, h)

theorem memoP_ok {P : Program} {cx : Ctx} {t : PTab} {ft : FuncId → Option Quick} (he : POk P cx t) (hq : ∀ f g, ft f = some g → QuickOk P cx f g) : ∀ f g, memoP t ft f = some g → QuickOk P cx f g := by
  intro f g hg
  unfold memoP at hg
  cases hf : ft f with
  | none => rw [hf] at hg; simp at hg
  | some g0 =>
    rw [hf] at hg
    simp only [Option.some.injEq] at hg
    subst hg
    intro cf ck n args h r h' hh base w μ cargs s hL
    have hh : @Option.rec T (fun _ => Option (T × H)) (g0 cf n args h) (fun r => some (r, h)) (findP t f args) = some (r, h') := hh
    cases hE : findP t f args with
    | none => rw [hE] at hh; exact hq f g0 hf cf ck n args h r h' hh base w μ cargs s hL
    | some p =>
      rw [hE] at hh
      have hh : some (p, h) = some (r, h') := hh
      simp only [Option.some.injEq, Prod.mk.injEq] at hh
      obtain ⟨rfl, rfl⟩ := hh
      obtain ⟨l, h1, h2⟩ := findP_mem hE
      exact he.mem f l h1 args p h2 base w μ cargs h s hL

noncomputable def callP (t : PTab) (ft : FuncId → Option Quick) (n : Nat) : CallF := callF (memoP t ft) n

theorem callP_ok {P : Program} {cx : Ctx} {t : PTab} {ft : FuncId → Option Quick} (he : POk P cx t) (hq : ∀ f g, ft f = some g → QuickOk P cx f g) (n : Nat) : CallOk P cx (callP t ft n) := callF_sound (memoP_ok he hq) n

/-- The next call into the table. -/
theorem POk.next {P : Program} {cx : Ctx} {t : PTab} {ft : FuncId → Option Quick} (hq : ∀ f g, ft f = some g → QuickOk P cx f g) {n : Nat} {f : Nat} {l : List (List T × T)} (he : POk P cx ((f, l) :: t)) {a : List T} {r : T}
    (hl : lowBs a = true) (hh : callP ((f, l) :: t) ft n f a ⟨0, 0, []⟩ = some (r, ⟨0, 0, []⟩)) : POk P cx ((f, (a, r) :: l) :: t) :=
  .ent (pure_of (lowBs_low a hl) fun base w μ cargs s hL => callP_ok he hq n f a ⟨0, 0, []⟩ r ⟨0, 0, []⟩ hh base w μ cargs s hL) he
end Go.TI

/- From the interpreter's answer to a contract of the program's call; the listed variables. -/
namespace Go.TI
set_option linter.unusedVariables false

def noMu : Mu := ⟨fun _ => none, fun _ => False⟩

theorem heap_of_var {P : Program} {w : World} {n : String} {g : Nat} {cs : Array Value} (hg : P.globalNamed n = some g) (h : w.var? P n = some cs) : ∃ t fz, w.heap[g]? = some (.cells cs t fz) := by
  simp only [World.var?, hg, Option.bind_some] at h
  split at h
  · rename_i c t fz he
    simp only [Option.some.injEq] at h; subst h
    exact ⟨t, fz, he⟩
  · simp at h

/-- An array whose elements are one cell each, listed. -/
theorem glob_array {P : Program} {w : World} {name : String} {g k : Nat} {t e : TypeId} (hg : P.globalNamed name = some g) (htg : (P.globals[g]?).map (·.type) = some t) (ht : P.underlying t = some (.array k e)) (hce : P.cellsOf e = 1)
    (hct : P.cellsOf t = k) {ds : List (DataW Unit)} {cs : List T} (hl : cs.length = k) (hsh : ∀ c ∈ cs, Shut c)
    (hel : ∀ (i : Nat) d v fuel p c, ds[i]? = some d → cs[i]? = some v → DataW.trod (fun _ => ()) P w 0 (fun _ => true) false fuel e [c] = some (d, p) → RelV w.heap noMu v c)
    (h : Lib.VarReads P w name (.agg ds)) : RelV w.heap noMu (.tptr cs) (.pointer (some ⟨g, 0, none⟩)) := by
  obtain ⟨g', t', vs, fuel, p, h1, h2, h3, h4⟩ := h
  obtain rfl := Option.some.inj (hg.symm.trans h1)
  obtain rfl := Option.some.inj (htg.symm.trans h2)
  obtain ⟨t2, fz, hheap⟩ := heap_of_var hg h3
  obtain ⟨xs, m, rfl, hx, hlen, hn, hall⟩ := DataW.trod_array ht h4
  simp only [Prod.mk.injEq, DataW.agg.injEq] at hx
  rw [hce] at hall
  rw [hct] at hlen
  have hvs : vs.size = k := by simpa using hlen
  refine .tptr cs g 0 vs t2 fz (fun hin => ?_) hheap (by omega) hsh fun i v hv => ?_
  · rcases hin with ⟨b, L, hb, _⟩ | hr
    · simp [noMu] at hb
    · exact hr
  · have hi : i < k := by
      rcases Nat.lt_or_ge i cs.length with y | y
      · omega
      · rw [List.getElem?_eq_none y] at hv; simp at hv
    have h0 := hall i hi
    have hcut : (vs.toList.drop (i * 1)).take 1 = [vs.getD i Go.undef] := by
      rw [Nat.mul_one, List.drop_eq_getElem_cons (by simpa [hvs] using hi)]
      have : i < vs.size := by omega
      simp [Array.getD_eq_getD_getElem?, this]
    rw [hcut] at h0
    obtain ⟨x, hxi⟩ : ∃ x, xs[i]? = some x := ⟨xs[i]'(by omega), by simp⟩
    rw [hxi] at h0
    obtain ⟨d, q⟩ := x
    rw [Nat.zero_add]
    refine hel i d v m q _ ?_ hv h0
    rw [hx.1, List.getElem?_map, hxi]; rfl

theorem glob_strings {P : Program} {w : World} {name : String} {g k : Nat} {t e : TypeId} (hg : P.globalNamed name = some g) (htg : (P.globals[g]?).map (·.type) = some t) (ht : P.underlying t = some (.array k e)) (he : P.underlying e = some .string)
    (hce : P.cellsOf e = 1) (hct : P.cellsOf t = k) {ss : List (List UInt8)} (hl : ss.length = k) {cs : List T} (hcs : cs = ss.map fun s => T.str (s.map UInt8.toNat))
    (h : Lib.VarReads P w name (.agg (ss.map fun s => .lit (.string s)))) : RelV w.heap noMu (.tptr cs) (.pointer (some ⟨g, 0, none⟩)) := by
  subst hcs
  refine glob_array hg htg ht hce hct (by simpa using hl) (fun c hc => ?_) (fun i d v fuel p c hd hv htr => ?_) h
  · obtain ⟨s, _, rfl⟩ := List.mem_map.1 hc
    exact ⟨rfl, .str _⟩
  · obtain ⟨s, hz, hx, _⟩ := DataW.trod_string he htr
    simp only [List.cons.injEq, and_true] at hz
    subst hz
    rw [List.getElem?_map] at hd hv
    cases hs : ss[i]? with
    | none => rw [hs] at hd; simp at hd
    | some s0 =>
      rw [hs] at hd hv
      simp only [Option.map_some, Option.some.injEq] at hd hv
      subst hd hv
      simp only [Prod.mk.injEq, DataW.lit.injEq, Lit.string.injEq] at hx
      have hb : bytesOf (s0.map UInt8.toNat) = s := by
        rw [hx.1, bytesOf_toNat]
      have := RelV.str (hp := w.heap) (μ := noMu) (s0.map UInt8.toNat) (by intro c hc; simp at hc; obtain ⟨a, _, rfl⟩ := hc; exact a.toNat_lt)
      rwa [hb] at this

theorem glob_ints {P : Program} {w : World} {name : String} {g k : Nat} {t e : TypeId} {ki : IntKind} (hg : P.globalNamed name = some g) (htg : (P.globals[g]?).map (·.type) = some t) (ht : P.underlying t = some (.array k e))
    (he : P.underlying e = some (.int ki)) (hce : P.cellsOf e = 1) (hct : P.cellsOf t = k) {zs : List Int} (hl : zs.length = k) {cs : List T} (hcs : cs = zs.map fun z => T.int ki z)
    (h : Lib.VarReads P w name (.agg (zs.map fun z => .lit (.int ki z)))) : RelV w.heap noMu (.tptr cs) (.pointer (some ⟨g, 0, none⟩)) := by
  subst hcs
  refine glob_array hg htg ht hce hct (by simpa using hl) (fun c hc => ?_) (fun i d v fuel p c hd hv htr => ?_) h
  · obtain ⟨s, _, rfl⟩ := List.mem_map.1 hc
    exact ⟨rfl, .int _ _⟩
  · obtain ⟨z, hz, hx, _⟩ := DataW.trod_int he htr
    simp only [List.cons.injEq, and_true] at hz
    subst hz
    rw [List.getElem?_map] at hd hv
    cases hs : zs[i]? with
    | none => rw [hs] at hd; simp at hd
    | some s0 =>
      rw [hs] at hd hv
      simp only [Option.map_some, Option.some.injEq] at hd hv
      subst hd hv
      simp only [Prod.mk.injEq, DataW.lit.injEq, Lit.int.injEq, true_and] at hx
      rw [← hx.1]
      exact .int _ _

/-- A call that the interpreter carries out with no argument, to 'true', returns true and leaves all that was there as it was. -/
theorem calls_true {P : Program} {cx : Ctx} {cf : CallF} (ck : CallOk P cx cf) {F : FuncId} {fn : Func} {c : Code} {h' : H} (hF : P.funcs[F]? = some fn) (hname : (fn.name == "runtime.NumGoroutine") = false) (hb : fn.body = some c)
    (hrun : cf F [] ⟨0, 0, []⟩ = some (.bool true, h')) (W : World) (hgl : ∀ g cs, cx.gl g = some cs → RelV W.heap noMu (.tptr cs) (.pointer (some ⟨g, 0, none⟩))) :
    Calls P F #[] W fun e W' => e = .returned (.bool true) ∧ RowKit.Below W.heap.size W W' := by
  have s : St cx W.heap.size W.heap noMu ⟨0, 0, []⟩ :=
    ⟨rfl, Nat.le_refl _, fun b L hb => by simp [noMu] at hb, fun b b' L L' hb => by simp [noMu] at hb, fun b L hb => by simp [noMu] at hb, fun b L hb => by simp [noMu] at hb, fun i hr => hr.elim, hgl⟩
  have h1 := ck F [] ⟨0, 0, []⟩ (.bool true) h' hrun W.heap.size W noMu #[] s RelL.nil
  rw [run_callFunc_enter hF hname hb] at h1
  have h1 : Calls P F #[] W fun
    | .returned v, w'' => AfterG cx W.heap.size W noMu ⟨0, 0, []⟩ (.bool true) h' v w''
    | _, _ => False := h1
  refine h1.mono fun e W' he => ?_
  cases e with
  | returned v =>
    obtain ⟨⟨μ', k1, k2, k3, k4⟩, _⟩ := he
    refine ⟨by rw [k1.inv_bool], k3.os, k3.tape, k3.output, k3.ext.size, fun k hk => (k3.ext.old k hk ?_).1⟩
    rintro (⟨b, L, hb, _⟩ | hr)
    · simp [noMu] at hb
    · exact hr
  | _ => exact he.elim
end Go.TI
