/- Walks: ref06.names. -/
import Derived.Test.YtddpfdjgppabhaaGreatDoorW06f
set_option linter.unusedSimpArgs false
set_option linter.unusedVariables false
namespace Go.Proofs.YtddpfdjgppabhaaGreatDoor
open Go Go.TI
set_option linter.unusedVariables false
set_option linter.unusedSimpArgs false
set_option maxRecDepth 100000
attribute [-simp] List.map_take List.map_drop List.map_append
/-- What is returned of a world's names. -/
def namesR (w : NWorld) : T := match cellNames w.cells with | some v => .tuple [sl ((namesOf w v).map T.str), .bool true] | none => .tuple [.ewild, .bool false]
def rNames06 : PRule := ⟨NWorld, fun a => [a.t], fun a => a.cells.length ≤ 1000000 ∧ a.locks.length ≤ 1000000 ∧ a.conds.length ≤ 1000000 ∧ a.futures.length ≤ 1000000 ∧ a.threads.length ≤ 1000000, namesR, fun a b h => by simp at h; rw [NWorld.inj h]⟩
theorem okNames06 : rNames06.Ok Tryz.prog cx 31 := by
  refine walkR (tb := ⟨pt [], ht []⟩) mixed tysOk fn31 (fun a => 1000002) (by simp [rNames06]) (by simp [rNames06, Tryz.f31]) ?_
  rintro (w : NWorld) hl vs ha
  simp [rNames06] at hl ha ⊢
  obtain ⟨hl, l2, l3, l4, l5⟩ := hl
  simp [Tryz.f31, dl31, ha]
  have hl0 := hl
  obtain ⟨l, hll⟩ : ∃ l, l = w.cells := ⟨_, rfl⟩
  rw [← hll] at hl
  refine W_up l.length (fun i vs h => Ok1 1 h ∧ h.get 0 = some ⟨6, 0, 0, true, false, [w.t]⟩ ∧ TI.look vs 1 = some (.ptr 0 0 0 0) ∧ TI.look vs 5 = some (.int .i64 i) ∧ ∃ v acc, TI.look vs 4 = some v ∧ Own h 0 v 1 (acc.map T.str) ∧ acc.length ≤ i ∧ (cellNames (l.drop i)).map (acc ++ ·) = cellNames l) ?_ (k := 0) (by omega) (by omega) ?_
  rotate_left
  · simp [ha]
    exact ⟨⟨by simp, by simp, by simp⟩, [], Own.nil _ _ _, by simp, by simp⟩
  rintro i vs h hi ⟨ok, b0, h1, h5, v, acc, h4, ho, hle, hm⟩
  have hn0 := ok.ne (b := 0) (by omega)
  by_cases hlt : i < l.length
  · have hlt' : (i : Int) < l.length := by omega
    have hltw : (i : Int) < w.cells.length := by rw [← hll]; exact hlt'
    have hlw : (w.cells.length : Int) = l.length := by rw [hll]
    have hli : l[i]? = some l[i] := List.getElem?_eq_getElem hlt
    have hliw : w.cells[i]? = some l[i] := by rw [← hll]; exact hli
    have hd := List.drop_eq_getElem_cons hlt
    rw [hd] at hm
    generalize hc : l[i] = c at *
    obtain ⟨nm, ix, sz, vo, ii⟩ := c
    have ho1 := ho.cons ⟨5, 0, 1, true, false, [NCell.t ⟨nm, ix, sz, vo, ii⟩]⟩
    have hg6 : (H.cons h ⟨5, 0, 1, true, false, [NCell.t ⟨nm, ix, sz, vo, ii⟩]⟩).get h.size = some ⟨5, 0, 1, true, false, [NCell.t ⟨nm, ix, sz, vo, ii⟩]⟩ := by simp
    have hg0 : (H.cons h ⟨5, 0, 1, true, false, [NCell.t ⟨nm, ix, sz, vo, ii⟩]⟩).get 0 = some ⟨6, 0, 0, true, false, [w.t]⟩ := by rw [get_consN, if_neg (by rw [hn0]; simp)]; exact b0
    obtain ⟨v2, h2, e2, o2, k2⟩ := ho1.appSM1 (cx := cx) cxty25 ty25_u cxty9 rfl (by simp) (by simp) nm (by simp; omega)
    rw [show (H.cons h ⟨5, 0, 1, true, false, [NCell.t ⟨nm, ix, sz, vo, ii⟩]⟩).size = h.size + 1 from rfl] at e2
    have g2 := k2.get _ _ hg6 (by simp)
    have b2 := k2.get _ _ hg0 (by simp)
    have ok2 := k2.ok 1 (ok.cons _)
    have hne : h.size < h2.size := by have := k2.size; simp [H.cons] at this; omega
    have hadd1 := binop_add (a := i) (b := 1) (by omega) (by omega)
    have hnone : cellNames l = none → namesR w = .tuple [.ewild, .bool false] := by intro h; unfold namesR; rw [← hll, h]
    by_cases q0 : sz = 0
    · subst q0
      rw [cellNames_zero rfl] at hm
      simp only at hm
      by_cases q1 : ix = 0
      · subst q1
        rw [if_pos rfl] at hm
        simp [b0, h1, h5, h4, hn0, hltw, hliw, ok.low, e2, g2, b2, hadd1]
        refine ⟨i + 1, by omega, by omega, ok2, by simp, acc ++ [nm], o2, by simp; omega, ?_⟩
        rw [← hm]; cases cellNames (List.drop (i + 1) l) <;> simp
      · rw [if_neg q1] at hm
        have hr := hnone (by rw [← hm]; rfl)
        simp [b0, h1, h5, h4, hn0, hltw, hliw, ok.low, e2, g2, b2, q1, hr, ok2.hp]
    · have hlen : (l.drop (i + 1)).length + 1 = l.length - i := by rw [List.length_drop]; omega
      have hsub := binop_sub (a := w.cells.length) (b := i) (by omega) (by omega)
      by_cases q2 : sz < 1 ∨ 4 < sz ∨ ((l.drop (i + 1)).length + 1 : Int) < sz
      · rw [cellNames_bad q0 q2] at hm
        have hr := hnone (by rw [← hm]; rfl)
        by_cases p1 : sz < 1
        · simp [b0, h1, h5, h4, hn0, hltw, hliw, ok.low, e2, g2, b2, q0, p1, hr, ok2.hp]
        · by_cases p2 : 4 < sz
          · simp [b0, h1, h5, h4, hn0, hltw, hliw, ok.low, e2, g2, b2, q0, p1, p2, hr, ok2.hp]
          · have p3 : (w.cells.length : Int) - i < sz := by omega
            simp [b0, h1, h5, h4, hn0, hltw, hliw, ok.low, e2, g2, b2, q0, p1, p2, p3, hr, ok2.hp, hsub]
      · rw [cellNames_row q0 q2] at hm
        have p1 : ¬ sz < 1 := by omega
        have p2 : ¬ 4 < sz := by omega
        have p3 : ¬ (w.cells.length : Int) - i < sz := by omega
        have hrow : rowOk ⟨nm, ix, sz, vo, ii⟩ (⟨nm, ix, sz, vo, ii⟩ :: List.drop (i + 1) l) = allI (fun k x => decide (x = ⟨nm, k, sz, false, ii⟩)) 0 ((l.drop i).take sz.toNat) := by rw [hd]; rfl
        generalize rowOk ⟨nm, ix, sz, vo, ii⟩ (⟨nm, ix, sz, vo, ii⟩ :: List.drop (i + 1) l) = R at *
        obtain ⟨N, rfl⟩ : ∃ N : Nat, sz = N := ⟨sz.toNat, by omega⟩
        rw [Int.toNat_natCast] at hrow hm
        simp only at hm
        have q0' : ¬ N = 0 := by omega
        simp [b0, h1, h5, h4, hn0, hltw, hliw, ok.low, e2, g2, b2, q0', p1, p2, p3, hsub]
        refine W_each N (by omega) (fun k vs h' => Ok1 1 h' ∧ h.size < h'.size ∧ h'.get 0 = some ⟨6, 0, 0, true, false, [w.t]⟩ ∧ TI.look vs 1 = some (.ptr 0 0 0 0) ∧ TI.look vs 5 = some (.int .i64 i) ∧ TI.look vs 4 = some v2 ∧ Own h' 0 v2 1 ((acc ++ [nm]).map T.str) ∧ TI.look vs 6 = some (.ptr h.size 0 0 0) ∧ TI.look vs 7 = some (.int .i64 k) ∧
          (∃ ver, h'.get h.size = some ⟨5, 0, ver, true, false, [NCell.t ⟨nm, ix, N, vo, ii⟩]⟩) ∧ allI (fun k x => decide (x = ⟨nm, k, N, false, ii⟩)) k (((l.drop i).take N).drop k) = R) ?_ ?_ (by omega) ?_
        · rintro k vs h' hk hadd ⟨ok', hs', b0, h1, h5, h4, ho', h6, h7, ⟨ver, g6⟩, hR⟩
          have hkN : (k : Int) < N := by omega
          have hikl : i + k < l.length := by omega
          have hn0' := ok'.ne (b := 0) (by omega)
          have hn6' : (h.size = h'.size) = False := by simp; omega
          have hadd2 := binop_add (a := i) (b := k) (by omega) (by omega)
          have hix : toIdxI ((i : Int) + k) = some (i + k) := by rw [toIdxI_of (by omega)]; congr 1
          have hlk : w.cells[i + k]? = some l[i + k] := by rw [← hll]; exact List.getElem?_eq_getElem hikl
          have hdk : ((l.drop i).take N).drop k = l[i + k] :: ((l.drop i).take N).drop (k + 1) := by
            rw [List.drop_eq_getElem_cons (by rw [List.length_take, List.length_drop]; omega)]
            congr 1
            rw [List.getElem_take, List.getElem_drop]
          rw [hdk, allI] at hR
          generalize l[i + k] = x at *
          obtain ⟨nm', ix', sz', vo', ii'⟩ := x
          have hfalse : ¬ (⟨nm', ix', sz', vo', ii'⟩ : NCell) = ⟨nm, k, N, false, ii⟩ → namesR w = .tuple [.ewild, .bool false] := by
            intro he
            rw [decide_eq_false he, Bool.false_and] at hR
            rw [← hR, if_neg (by simp)] at hm
            exact hnone (by rw [← hm]; rfl)
          have hok8 := ok'.cons ⟨5, 0, 1, true, false, [NCell.t ⟨nm', ix', sz', vo', ii'⟩]⟩
          by_cases d1 : ix' = k
          · by_cases d2 : nm' = nm
            · by_cases d3 : sz' = N
              · by_cases d4 : ii' = ii
                · cases vo' with
                  | false =>
                    subst d1 d2 d3 d4
                    rw [decide_eq_true rfl, Bool.true_and] at hR
                    simp [b0, h1, h5, h4, h6, h7, hn0', hn6', hkN, g6, hadd2, hix, hlk, ok'.low, hadd]
                    exact ⟨hok8, by omega, ho'.cons _, hR⟩
                  | true =>
                    have hr := hfalse (by simp)
                    simp [b0, h1, h5, h4, h6, h7, hn0', hn6', hkN, g6, hadd2, hix, hlk, ok'.low, d1, d2, d3, d4, hr, ok'.hp]
                · have hr := hfalse (by simp [d4])
                  simp [b0, h1, h5, h4, h6, h7, hn0', hn6', hkN, g6, hadd2, hix, hlk, ok'.low, d1, d2, d3, d4, hr, ok'.hp]
              · have hr := hfalse (by simp [d3])
                simp [b0, h1, h5, h4, h6, h7, hn0', hn6', hkN, g6, hadd2, hix, hlk, ok'.low, d1, d2, d3, hr, ok'.hp]
            · have hr := hfalse (by simp [d2])
              simp [b0, h1, h5, h4, h6, h7, hn0', hn6', hkN, g6, hadd2, hix, hlk, ok'.low, d1, d2, hr, ok'.hp]
          · have hr := hfalse (by simp [d1])
            simp [b0, h1, h5, h4, h6, h7, hn0', hn6', hkN, g6, hadd2, hix, hlk, ok'.low, d1, hr, ok'.hp]
        · rintro vs h' ⟨ok', hs', b0, h1, h5, h4, ho', h6, h7, ⟨ver, g6⟩, hR⟩
          have hRt : R = true := by rw [← hR, List.drop_eq_nil_of_le (by rw [List.length_take]; omega)]; rfl
          have hadd2 := binop_add (a := i) (b := N) (by omega) (by omega)
          rw [hRt, if_pos rfl] at hm
          simp [b0, h1, h5, h4, h6, h7, g6, hadd2]
          refine ⟨i + N, by omega, by omega, ok', by simp, acc ++ [nm], ho', by simp; omega, ?_⟩
          rw [← hm, List.drop_drop.symm, hd]; cases cellNames (List.drop N (_ :: List.drop (i + 1) l)) <;> simp
        · simp [h1, h5, h4]
          exact ⟨ok2, hne, b2, o2, ⟨_, g2⟩, hrow.symm⟩
  · have : i = l.length := by omega
    subst this
    have hlw : (w.cells.length : Int) = l.length := by rw [hll]
    rw [List.drop_length, cellNames] at hm
    have hva : cellNames w.cells = some acc := by rw [← hll, ← hm]; simp
    have hr : namesR w = .tuple [sl ((namesOf w acc).map T.str), .bool true] := by unfold namesR; rw [hva]
    have hal : acc.length ≤ 1000000 := by omega
    simp [b0, h1, h5, h4, hlw]
    refine W_each w.locks.length (by omega) (fun k vs h => Ok1 1 h ∧ h.get 0 = some ⟨6, 0, 0, true, false, [w.t]⟩ ∧ TI.look vs 1 = some (.ptr 0 0 0 0) ∧ TI.look vs 9 = some (.int .i64 k) ∧
      ∃ v, TI.look vs 4 = some v ∧ Own h 0 v 1 ((acc ++ (w.locks.take k).map (·.name)).map T.str)) ?_ ?_ (by omega) ?_
    · rintro k vs h hlt hadd ⟨ok, b0, h1, h9, v, h4, ho⟩
      have hk : (k : Int) < w.locks.length := by omega
      obtain ⟨v2, g2, e2, o2, k2⟩ := ho.appSM1 (cx := cx) cxty25 ty25_u cxty9 rfl (by simp) (by simp) (w.locks[k]).name (by simp; omega)
      have b2 := k2.get 0 _ b0 (by simp)
      simp [b0, h1, h9, h4, hk, hlt, ok.low, e2, hadd]
      refine ⟨k2.ok 1 ok, b2, ?_⟩
      simpa [take_succ_map _ _ hlt] using o2
    rotate_left
    · simp [h1, h4]
      exact ⟨ok, b0, by simpa using ho⟩
    rintro vs h ⟨ok, b0, h1, h9, v, h4, ho⟩
    simp [b0, h1, h9, h4]
    rw [List.take_length] at ho
    refine W_each w.conds.length (by omega) (fun k vs h => Ok1 1 h ∧ h.get 0 = some ⟨6, 0, 0, true, false, [w.t]⟩ ∧ TI.look vs 1 = some (.ptr 0 0 0 0) ∧ TI.look vs 10 = some (.int .i64 k) ∧
      ∃ v, TI.look vs 4 = some v ∧ Own h 0 v 1 ((acc ++ w.locks.map (·.name) ++ (w.conds.take k).map (·.name)).map T.str)) ?_ ?_ (by omega) ?_
    · rintro k vs h hlt hadd ⟨ok, b0, h1, h9, v, h4, ho⟩
      have hk : (k : Int) < w.conds.length := by omega
      obtain ⟨v2, g2, e2, o2, k2⟩ := ho.appSM1 (cx := cx) cxty25 ty25_u cxty9 rfl (by simp) (by simp) (w.conds[k]).name (by simp; omega)
      have b2 := k2.get 0 _ b0 (by simp)
      simp [b0, h1, h9, h4, hk, hlt, ok.low, e2, hadd]
      refine ⟨k2.ok 1 ok, b2, ?_⟩
      simpa [take_succ_map _ _ hlt] using o2
    rotate_left
    · simp [h1, b0, h4]
      exact ⟨ok, by simpa using ho⟩
    rintro vs h ⟨ok, b0, h1, h9, v, h4, ho⟩
    rw [List.take_length] at ho
    obtain ⟨v3, g3, e3, o3, k3⟩ := ho.appSM (cx := cx) cxty25 ty25_u cxty9 rfl (by simp) (by simp) w.futures (by simp; omega)
    have b3 := k3.get 0 _ b0 (by simp)
    obtain ⟨v4, g4, e4, o4, k4⟩ := o3.appSM (cx := cx) cxty25 ty25_u cxty9 rfl (by simp) (by simp) w.threads (by simp; omega)
    have ok4 := k4.ok 1 (k3.ok 1 ok)
    have hL : namesOf w acc = acc ++ w.locks.map (·.name) ++ w.conds.map (·.name) ++ w.futures ++ w.threads := rfl
    rw [← hL] at o4
    simp [b0, h1, h9, h4, e3, b3, e4, hr, o4.fzM (f := T.str) (by simp), ok4.hp]
theorem cNames06 {tb : Tabs} (ht : tb.p 31 = some rNames06) (w : NWorld) (hl : w.cells.length ≤ 1000000 ∧ w.locks.length ≤ 1000000 ∧ w.conds.length ≤ 1000000 ∧ w.futures.length ≤ 1000000 ∧ w.threads.length ≤ 1000000) : rl Tryz.prog cx tb 31 [w.t] = some (namesR w) := rl_of ht okNames06 w hl
end Go.Proofs.YtddpfdjgppabhaaGreatDoor
