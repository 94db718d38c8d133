/- Walks: the cells of a world. -/
import Derived.Test.YtddpfdjgppabhaaGreatDoorW06d
set_option linter.unusedSimpArgs false
set_option linter.unusedVariables false
namespace Go.Proofs.YtddpfdjgppabhaaGreatDoor
open Go Go.TI
set_option linter.unusedVariables false
set_option linter.unusedSimpArgs false
set_option maxRecDepth 100000
attribute [-simp] List.map_take List.map_drop List.map_append
@[simp] theorem sl_nil : sl [] = T.ewild := id rfl
@[simp] theorem nilOk_cell (x y : Operand) (c : NCell) (b : T) : nilOk x y c.t b = true := id rfl
theorem eqNCell (x y : NCell) : eqT cx ty109 x.t y.t = some (decide (x = y)) := by
  obtain ⟨a, b, c, d, e⟩ := x
  obtain ⟨a', b', c', d', e'⟩ := y
  show eqT cx ty109 (.agg [.str a, .int .i64 b, .int .i64 c, .bool d, .int .i64 e]) (.agg [.str a', .int .i64 b', .int .i64 c', .bool d', .int .i64 e']) = _
  rw [eqT_struct rfl rfl]
  simp only [eqFields_cons, cxty9, cxty3, cxty4, cxty2, bnd_some, ty9_u, ty3_u, ty4_u, ty2_u, plain_str, plain_int, plain_bool, chk_true, eqCell_str, eqCell_int, eqCell_bool]
  simp only [beq_nat, decide_true, chk_true, NCell.mk.injEq]
  by_cases h1 : a = a' <;> by_cases h2 : b = b' <;> by_cases h3 : c = c' <;> by_cases h5 : e = e' <;> cases d <;> cases d' <;> simp [h1, h2, h3, h5]
theorem cellNames_zero {c : NCell} {r : List NCell} (h : c.size = 0) : cellNames (c :: r) = if c.index = 0 then (cellNames r).map (c.name :: ·) else none := by rw [cellNames, if_pos h]
theorem cellNames_bad {c : NCell} {r : List NCell} (h : ¬ c.size = 0) (hb : c.size < 1 ∨ 4 < c.size ∨ (r.length + 1 : Int) < c.size) : cellNames (c :: r) = none := by rw [cellNames, if_neg h, dif_pos hb]
theorem cellNames_row {c : NCell} {r : List NCell} (h : ¬ c.size = 0) (hb : ¬ (c.size < 1 ∨ 4 < c.size ∨ (r.length + 1 : Int) < c.size)) : cellNames (c :: r) = if rowOk c (c :: r) = true then (cellNames ((c :: r).drop c.size.toNat)).map (c.name :: ·) else none := by rw [cellNames, if_neg h, dif_neg hb]
theorem rowOk_vol {c : NCell} {r : List NCell} (h : 1 ≤ c.size) (hv : c.volatile = true) : rowOk c (c :: r) = false := by
  obtain ⟨m, hm⟩ : ∃ m, c.size.toNat = m + 1 := ⟨c.size.toNat - 1, by omega⟩
  unfold rowOk
  rw [hm, List.take_succ_cons, allI]
  have : ¬ c = { c with index := ((0 : Nat) : Int), volatile := false } := by
    intro h
    rw [h] at hv; simp at hv
  rw [decide_eq_false this]; rfl
/-- What is returned of the cells. -/
def cellsR (l : List NCell) : T := match cellNames l with | some v => .tuple [sl (v.map T.str), .bool true] | none => .tuple [.ewild, .bool false]
def rCells : PRule := ⟨List NCell, fun a => [sl (a.map NCell.t)], fun a => a.length ≤ 1000000, cellsR, fun a b h => by simp at h; rw [slm_inj (fun _ _ => NCell.inj) h]⟩
theorem okCells : rCells.Ok Tryz.prog cx 173 := by
  refine walkR (tb := ⟨pt [], ht []⟩) mixed tysOk fn173 (fun a => a.length + 2) (by simp [rCells]) (by simp [rCells, Tryz.f173]) ?_
  rintro (l : List NCell) hl vs ha
  simp [rCells] at hl ha ⊢
  simp [Tryz.f173, dl173, ha]
  refine W_up l.length (fun i vs h => Ok1 0 h ∧ TI.look vs 0 = some (sl (l.map NCell.t)) ∧ TI.look vs 5 = some (.int .i64 i) ∧ ∃ v acc, TI.look vs 4 = some v ∧ Own h 0 v 1 (acc.map T.str) ∧ acc.length ≤ i ∧ (cellNames (l.drop i)).map (acc ++ ·) = cellNames l) ?_ (k := 0) (by omega) (by omega) ?_
  · rintro i vs h hi ⟨ok, h0, h5, v, acc, h4, ho, hle, hm⟩
    by_cases hlt : i < l.length
    · have hlt' : (i : Int) < l.length := by omega
      have hli : l[i]? = some l[i] := List.getElem?_eq_getElem hlt
      have hd := List.drop_eq_getElem_cons hlt
      rw [hd] at hm
      generalize hc : l[i] = c at *
      obtain ⟨nm, ix, sz, vo, ii⟩ := c
      have ho1 := ho.cons ⟨5, 0, 1, true, false, [NCell.t ⟨nm, ix, sz, vo, ii⟩]⟩
      have hg6 : (H.cons h ⟨5, 0, 1, true, false, [NCell.t ⟨nm, ix, sz, vo, ii⟩]⟩).get h.size = some ⟨5, 0, 1, true, false, [NCell.t ⟨nm, ix, sz, vo, ii⟩]⟩ := by simp
      obtain ⟨v2, h2, e2, o2, k2⟩ := ho1.appSM1 (cx := cx) cxty25 ty25_u cxty9 rfl (by simp) (by simp) nm (by simp; omega)
      rw [show (H.cons h ⟨5, 0, 1, true, false, [NCell.t ⟨nm, ix, sz, vo, ii⟩]⟩).size = h.size + 1 from rfl] at e2
      have g2 := k2.get _ _ hg6 (by simp)
      have ok2 := k2.ok 0 (ok.cons _)
      have hne : h.size < h2.size := by have := k2.size; simp [H.cons] at this; omega
      have hadd1 := binop_add (a := i) (b := 1) (by omega) (by omega)
      by_cases q0 : sz = 0
      · subst q0
        rw [cellNames_zero rfl] at hm
        simp only at hm
        by_cases q1 : ix = 0
        · subst q1
          rw [if_pos rfl] at hm
          simp [h0, h5, h4, hlt', hli, ok.low, e2, g2, hadd1]
          refine ⟨i + 1, by omega, by omega, ok2, by simp, acc ++ [nm], o2, by simp; omega, ?_⟩
          rw [← hm]; cases cellNames (List.drop (i + 1) l) <;> simp
        · rw [if_neg q1] at hm
          have hr : cellsR l = .tuple [.ewild, .bool false] := by unfold cellsR; rw [← hm]; rfl
          simp [h0, h5, h4, hlt', hli, ok.low, e2, g2, q1, hr, ok2.hp]
      · have hlen : (l.drop (i + 1)).length + 1 = l.length - i := by rw [List.length_drop]; omega
        by_cases q2 : sz < 1 ∨ 4 < sz ∨ ((l.drop (i + 1)).length + 1 : Int) < sz
        · rw [cellNames_bad q0 q2] at hm
          have hr : cellsR l = .tuple [.ewild, .bool false] := by unfold cellsR; rw [← hm]; rfl
          have hsub := binop_sub (a := l.length) (b := i) (by omega) (by omega)
          by_cases p1 : sz < 1
          · simp [h0, h5, h4, hlt', hli, ok.low, e2, g2, q0, p1, hr, ok2.hp]
          · by_cases p2 : 4 < sz
            · simp [h0, h5, h4, hlt', hli, ok.low, e2, g2, q0, p1, p2, hr, ok2.hp]
            · have p3 : (l.length : Int) - i < sz := by omega
              cases vo <;> simp [h0, h5, h4, hlt', hli, ok.low, e2, g2, q0, p1, p2, p3, hr, ok2.hp, hsub]
        · rw [cellNames_row q0 q2] at hm
          have hsub := binop_sub (a := l.length) (b := i) (by omega) (by omega)
          have p1 : ¬ sz < 1 := by omega
          have p2 : ¬ 4 < sz := by omega
          have p3 : ¬ (l.length : Int) - i < sz := by omega
          cases vo with
          | true =>
            rw [rowOk_vol (by simp only; omega) rfl, if_neg (by simp)] at hm
            have hr : cellsR l = .tuple [.ewild, .bool false] := by unfold cellsR; rw [← hm]; rfl
            simp [h0, h5, h4, hlt', hli, ok.low, e2, g2, q0, p1, p2, hr, ok2.hp]
          | false =>
            have hrow : rowOk ⟨nm, ix, sz, false, ii⟩ (⟨nm, ix, sz, false, ii⟩ :: List.drop (i + 1) l) = allI (fun k x => decide (x = ⟨nm, k, sz, false, ii⟩)) 0 ((l.drop i).take sz.toNat) := by rw [hd]; rfl
            generalize rowOk ⟨nm, ix, sz, false, ii⟩ (⟨nm, ix, sz, false, ii⟩ :: List.drop (i + 1) l) = R at *
            obtain ⟨N, rfl⟩ : ∃ N : Nat, sz = N := ⟨sz.toNat, by omega⟩
            rw [Int.toNat_natCast] at hrow hm
            simp only at hm
            have q0' : ¬ N = 0 := by omega
            simp [h0, h5, h4, hlt', hli, ok.low, e2, g2, q0', p1, p2, p3, hsub]
            refine W_each N (by omega) (fun k vs h' => Ok1 0 h' ∧ h.size < h'.size ∧ TI.look vs 0 = some (sl (l.map NCell.t)) ∧ TI.look vs 5 = some (.int .i64 i) ∧ TI.look vs 4 = some v2 ∧ Own h' 0 v2 1 ((acc ++ [nm]).map T.str) ∧ TI.look vs 6 = some (.ptr h.size 0 0 0) ∧ TI.look vs 51 = some (.int .i64 N) ∧ TI.look vs 52 = some (.int .i64 k) ∧
              (∃ ver j, h'.get h.size = some ⟨5, 0, ver, true, false, [NCell.t ⟨nm, j, N, false, ii⟩]⟩) ∧ allI (fun k x => decide (x = ⟨nm, k, N, false, ii⟩)) k (((l.drop i).take N).drop k) = R) ?_ ?_ (by omega) ?_
            · rintro k vs h' hk hadd ⟨ok', hs', h0, h5, h4, ho', h6, h51, h52, ⟨ver, j, g6⟩, hR⟩
              have hkN : (k : Int) < N := by omega
              have hikl : i + k < l.length := by omega
              have hadd2 := binop_add (a := i) (b := k) (by omega) (by omega)
              have hix : toIdxI ((i : Int) + k) = some (i + k) := by rw [toIdxI_of (by omega)]; congr 1
              have hlk : l[i + k]? = some l[i + k] := List.getElem?_eq_getElem hikl
              have hdk : ((l.drop i).take N).drop k = l[i + k] :: ((l.drop i).take N).drop (k + 1) := by
                rw [List.drop_eq_getElem_cons (by rw [List.length_take, List.length_drop]; omega)]
                congr 1
                rw [List.getElem_take, List.getElem_drop]
              rw [hdk, allI] at hR
              have gp := putB_get g6 ⟨5, 0, ver + 1, true, false, [NCell.t ⟨nm, k, N, false, ii⟩]⟩ h.size
              rw [if_pos rfl] at gp
              have okp := ok'.put h.size ⟨5, 0, ver + 1, true, false, [NCell.t ⟨nm, k, N, false, ii⟩]⟩
              have hop := ho'.putNe g6 (by simp) ⟨5, 0, ver + 1, true, false, [NCell.t ⟨nm, k, N, false, ii⟩]⟩
              have hsp : h.size < (putB h' h.size ⟨5, 0, ver + 1, true, false, [NCell.t ⟨nm, k, N, false, ii⟩]⟩).size := by rw [putB_size]; exact hs'
              by_cases he : l[i + k] = ⟨nm, k, N, false, ii⟩
              · rw [decide_eq_true he, Bool.true_and] at hR
                simp [h0, h5, h4, h6, h51, h52, hkN, g6, gp, hadd2, hix, hlk, eqNCell, he, hadd]
                exact ⟨okp, hs', hop, ⟨_, rfl⟩, hR⟩
              · rw [decide_eq_false he, Bool.false_and] at hR
                rw [← hR, if_neg (by simp)] at hm
                have hr : cellsR l = .tuple [.ewild, .bool false] := by unfold cellsR; rw [← hm]; rfl
                simp [h0, h5, h4, h6, h51, h52, hkN, g6, gp, hadd2, hix, hlk, eqNCell, he, hr]
                exact ok'.hp
            · rintro vs h' ⟨ok', hs', h0, h5, h4, ho', h6, h51, h52, ⟨ver, j, g6⟩, hR⟩
              have hRt : R = true := by rw [← hR, List.drop_eq_nil_of_le (by rw [List.length_take]; omega)]; rfl
              have hadd2 := binop_add (a := i) (b := N) (by omega) (by omega)
              rw [hRt, if_pos rfl] at hm
              simp [h0, h5, h4, h6, h51, h52, g6, hadd2]
              refine ⟨i + N, by omega, by omega, ok', by simp, acc ++ [nm], ho', by simp; omega, ?_⟩
              rw [← hm, List.drop_drop.symm, hd]; cases cellNames (List.drop N (_ :: List.drop (i + 1) l)) <;> simp
            · simp [h0, h5, h4]
              exact ⟨ok2, hne, o2, ⟨⟨_, _, g2⟩, hrow.symm⟩⟩
    · have : i = l.length := by omega
      subst this
      rw [List.drop_length, cellNames] at hm
      have hr : cellsR l = .tuple [sl (acc.map T.str), .bool true] := by unfold cellsR; rw [← hm]; simp
      simp [h0, h5, h4, hr, ho.fzM (f := T.str) (by simp), ok.hp]
  · simp [ha]
    exact ⟨⟨by simp, by simp, by simp⟩, [], Own.nil _ _ _, by simp, by simp⟩
theorem cCells {tb : Tabs} (ht : tb.p 173 = some rCells) (l : List NCell) (hl : l.length ≤ 1000000) : rl Tryz.prog cx tb 173 [sl (l.map NCell.t)] = some (cellsR l) := rl_of ht okCells l hl
end Go.Proofs.YtddpfdjgppabhaaGreatDoor
