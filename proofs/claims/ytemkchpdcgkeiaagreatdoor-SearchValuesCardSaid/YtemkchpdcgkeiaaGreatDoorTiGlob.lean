/- From the interpreter's answer to a contract of the program's call; the listed variables. -/
import Derived.Test.YtemkchpdcgkeiaaGreatDoorTiPrim
import Derived.Below
import Derived.Lib.LaidU8
import Derived.OpenShut
namespace Go.TI
set_option linter.unusedSimpArgs false
set_option linter.unusedVariables false
set_option linter.unusedVariables false

def noMu : Mu := ⟨fun _ => none, fun _ => False⟩

theorem heap_of_var {P : Program} {w : World} {n : String} {g : Nat} {cs : Array Value} (hg : P.globalNamed n = some g) (h : w.var? P n = some cs) : ∃ t fz, w.heap[g]? = some (.cells cs t fz) := by
  simp only [World.var?, hg, Option.bind_some] at h
  split at h
  · rename_i c t fz he
    simp only [Option.some.injEq] at h; subst h
    exact ⟨t, fz, he⟩
  · simp at h

/-- An array whose elements are one cell each, listed. -/
theorem glob_array {P : Program} {w : World} {name : String} {g k : Nat} {t e : TypeId} (hg : P.globalNamed name = some g) (htg : (P.globals[g]?).map (·.type) = some t) (ht : P.underlying t = some (.array k e)) (hce : P.cellsOf e = 1)
    (hct : P.cellsOf t = k) {ds : List (DataW Unit)} {cs : List T} (hl : cs.length = k) (hsh : ∀ c ∈ cs, Shut c)
    (hel : ∀ (i : Nat) d v fuel p c, ds[i]? = some d → cs[i]? = some v → DataW.trod (fun _ => ()) P w 0 (fun _ => true) false fuel e [c] = some (d, p) → RelV w.heap noMu v c)
    (h : Lib.VarReads P w name (.agg ds)) : RelV w.heap noMu (.tptr cs) (.pointer (some ⟨g, 0, none⟩)) := by
  obtain ⟨g', t', vs, fuel, p, h1, h2, h3, h4⟩ := h
  obtain rfl := Option.some.inj (hg.symm.trans h1)
  obtain rfl := Option.some.inj (htg.symm.trans h2)
  obtain ⟨t2, fz, hheap⟩ := heap_of_var hg h3
  obtain ⟨xs, m, rfl, hx, hlen, hn, hall⟩ := DataW.trod_array ht h4
  simp only [Prod.mk.injEq, DataW.agg.injEq] at hx
  rw [hce] at hall
  rw [hct] at hlen
  have hvs : vs.size = k := by simpa using hlen
  refine .tptr cs g 0 vs t2 fz (fun hin => ?_) hheap (by omega) hsh fun i v hv => ?_
  · rcases hin with ⟨b, L, hb, _⟩ | hr
    · simp [noMu] at hb
    · exact hr
  · have hi : i < k := by
      rcases Nat.lt_or_ge i cs.length with y | y
      · omega
      · rw [List.getElem?_eq_none y] at hv; simp at hv
    have h0 := hall i hi
    have hcut : (vs.toList.drop (i * 1)).take 1 = [vs.getD i Go.undef] := by
      rw [Nat.mul_one, List.drop_eq_getElem_cons (by simpa [hvs] using hi)]
      have : i < vs.size := by omega
      simp [Array.getD_eq_getD_getElem?, this]
    rw [hcut] at h0
    obtain ⟨x, hxi⟩ : ∃ x, xs[i]? = some x := ⟨xs[i]'(by omega), by simp⟩
    rw [hxi] at h0
    obtain ⟨d, q⟩ := x
    rw [Nat.zero_add]
    refine hel i d v m q _ ?_ hv h0
    rw [hx.1, List.getElem?_map, hxi]; rfl

theorem glob_strings {P : Program} {w : World} {name : String} {g k : Nat} {t e : TypeId} (hg : P.globalNamed name = some g) (htg : (P.globals[g]?).map (·.type) = some t) (ht : P.underlying t = some (.array k e)) (he : P.underlying e = some .string)
    (hce : P.cellsOf e = 1) (hct : P.cellsOf t = k) {ss : List (List UInt8)} (hl : ss.length = k) {cs : List T} (hcs : cs = ss.map fun s => T.str (s.map UInt8.toNat))
    (h : Lib.VarReads P w name (.agg (ss.map fun s => .lit (.string s)))) : RelV w.heap noMu (.tptr cs) (.pointer (some ⟨g, 0, none⟩)) := by
  subst hcs
  refine glob_array hg htg ht hce hct (by simpa using hl) (fun c hc => ?_) (fun i d v fuel p c hd hv htr => ?_) h
  · obtain ⟨s, _, rfl⟩ := List.mem_map.1 hc
    exact ⟨rfl, .str _⟩
  · obtain ⟨s, hz, hx, _⟩ := DataW.trod_string he htr
    simp only [List.cons.injEq, and_true] at hz
    subst hz
    rw [List.getElem?_map] at hd hv
    cases hs : ss[i]? with
    | none => rw [hs] at hd; simp at hd
    | some s0 =>
      rw [hs] at hd hv
      simp only [Option.map_some, Option.some.injEq] at hd hv
      subst hd hv
      simp only [Prod.mk.injEq, DataW.lit.injEq, Lit.string.injEq] at hx
      have hb : bytesOf (s0.map UInt8.toNat) = s := by
        rw [hx.1, bytesOf_toNat]
      have := RelV.str (hp := w.heap) (μ := noMu) (s0.map UInt8.toNat) (by intro c hc; simp at hc; obtain ⟨a, _, rfl⟩ := hc; exact a.toNat_lt)
      rwa [hb] at this

theorem glob_ints {P : Program} {w : World} {name : String} {g k : Nat} {t e : TypeId} {ki : IntKind} (hg : P.globalNamed name = some g) (htg : (P.globals[g]?).map (·.type) = some t) (ht : P.underlying t = some (.array k e))
    (he : P.underlying e = some (.int ki)) (hce : P.cellsOf e = 1) (hct : P.cellsOf t = k) {zs : List Int} (hl : zs.length = k) {cs : List T} (hcs : cs = zs.map fun z => T.int ki z)
    (h : Lib.VarReads P w name (.agg (zs.map fun z => .lit (.int ki z)))) : RelV w.heap noMu (.tptr cs) (.pointer (some ⟨g, 0, none⟩)) := by
  subst hcs
  refine glob_array hg htg ht hce hct (by simpa using hl) (fun c hc => ?_) (fun i d v fuel p c hd hv htr => ?_) h
  · obtain ⟨s, _, rfl⟩ := List.mem_map.1 hc
    exact ⟨rfl, .int _ _⟩
  · obtain ⟨z, hz, hx, _⟩ := DataW.trod_int he htr
    simp only [List.cons.injEq, and_true] at hz
    subst hz
    rw [List.getElem?_map] at hd hv
    cases hs : zs[i]? with
    | none => rw [hs] at hd; simp at hd
    | some s0 =>
      rw [hs] at hd hv
      simp only [Option.map_some, Option.some.injEq] at hd hv
      subst hd hv
      simp only [Prod.mk.injEq, DataW.lit.injEq, Lit.int.injEq, true_and] at hx
      rw [← hx.1]
      exact .int _ _

/-- A call that the interpreter carries out with no argument, to 'true', returns true and leaves all that was there as it was. -/
theorem calls_true {P : Program} {cx : Ctx} {cf : CallF} (ck : CallOk P cx cf) {F : FuncId} {fn : Func} {c : Code} {h' : H} (hF : P.funcs[F]? = some fn) (hname : (fn.name == "runtime.NumGoroutine") = false) (hb : fn.body = some c)
    (hrun : cf F [] ⟨0, 0, []⟩ = some (.bool true, h')) (W : World) (hgl : ∀ g cs, cx.gl g = some cs → RelV W.heap noMu (.tptr cs) (.pointer (some ⟨g, 0, none⟩))) :
    Calls P F #[] W fun e W' => e = .returned (.bool true) ∧ RowKit.Below W.heap.size W W' := by
  have s : St cx W.heap.size W.heap noMu ⟨0, 0, []⟩ :=
    ⟨rfl, Nat.le_refl _, fun b L hb => by simp [noMu] at hb, fun b b' L L' hb => by simp [noMu] at hb, fun b L hb => by simp [noMu] at hb, fun b L hb => by simp [noMu] at hb, fun i hr => hr.elim, hgl⟩
  have h1 := ck F [] ⟨0, 0, []⟩ (.bool true) h' hrun W.heap.size W noMu #[] s RelL.nil
  rw [run_callFunc_enter hF hname hb] at h1
  have h1 : Calls P F #[] W fun
    | .returned v, w'' => AfterG cx W.heap.size W noMu ⟨0, 0, []⟩ (.bool true) h' v w''
    | _, _ => False := h1
  refine h1.mono fun e W' he => ?_
  cases e with
  | returned v =>
    obtain ⟨⟨μ', k1, k2, k3, k4⟩, _⟩ := he
    refine ⟨by rw [k1.inv_bool], k3.os, k3.tape, k3.output, k3.ext.size, fun k hk => (k3.ext.old k hk ?_).1⟩
    rintro (⟨b, L, hb, _⟩ | hr)
    · simp [noMu] at hb
    · exact hr
  | _ => exact he.elim
end Go.TI
