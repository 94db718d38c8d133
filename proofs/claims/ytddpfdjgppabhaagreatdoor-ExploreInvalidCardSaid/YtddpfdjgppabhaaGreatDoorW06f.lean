/- Walks: the names of a world. -/
import Derived.Test.YtddpfdjgppabhaaGreatDoorW06e
set_option linter.unusedSimpArgs false
set_option linter.unusedVariables false
namespace Go.Proofs.YtddpfdjgppabhaaGreatDoor
open Go Go.TI
set_option linter.unusedVariables false
set_option linter.unusedSimpArgs false
set_option maxRecDepth 100000
attribute [-simp] List.map_take List.map_drop List.map_append
theorem cellNames_len : ∀ (n : Nat) (l : List NCell), l.length ≤ n → ∀ v, cellNames l = some v → v.length ≤ l.length := by
  intro n
  induction n with
  | zero =>
    intro l hl v h
    have : l = [] := List.eq_nil_of_length_eq_zero (by omega)
    subst this
    rw [cellNames] at h; simp at h; subst h; simp
  | succ n ih =>
    intro l hl v h
    cases l with
    | nil => rw [cellNames] at h; simp at h; subst h; simp
    | cons c r =>
      simp at hl
      by_cases h0 : c.size = 0
      · rw [cellNames_zero h0] at h
        split at h
        · cases hc : cellNames r with
          | none => rw [hc] at h; simp at h
          | some v' => rw [hc] at h; simp at h; subst h; have := ih r hl v' hc; simp; omega
        · simp at h
      · by_cases hb : c.size < 1 ∨ 4 < c.size ∨ (r.length + 1 : Int) < c.size
        · rw [cellNames_bad h0 hb] at h; simp at h
        · rw [cellNames_row h0 hb] at h
          split at h
          · cases hc : cellNames ((c :: r).drop c.size.toNat) with
            | none => rw [hc] at h; simp at h
            | some v' =>
              rw [hc] at h; simp at h; subst h
              have := ih _ (by simp; omega) v' hc
              simp at this ⊢; omega
          · simp at h
/-! validNames -/
def rNames : PRule := ⟨NWorld × List (List Nat), fun a => [a.1.t, sl (a.2.map T.str)], fun a => a.2.length ≤ 1000000 ∧ a.1.locks.length ≤ 1000000 ∧ a.1.conds.length ≤ 1000000 ∧ a.1.futures.length ≤ 1000000 ∧ a.1.threads.length ≤ 1000000, fun a => .bool (namesN (namesOf a.1 a.2)), fun a b h => by
  simp at h; rw [NWorld.inj h.1, slm_inj (by simp) h.2]⟩
theorem take_succ_map {α β : Type} (f : α → β) (l : List α) {k : Nat} (h : k < l.length) : (l.take (k + 1)).map f = (l.take k).map f ++ [f l[k]] := by
  rw [List.take_succ_eq_append_getElem h, List.map_append]; rfl
theorem okNames : rNames.Ok Tryz.prog cx 174 := by
  refine walkR (tb := ⟨pt [(214, rName)], ht []⟩) mixed tysOk fn174 (fun a => 5000002) (by simp [rNames]) (by simp [rNames, Tryz.f174]) ?_
  rintro ⟨w, va⟩ hl vs ha
  simp [rNames] at hl ha ⊢
  obtain ⟨h0, h1⟩ := ha
  obtain ⟨l1, l2, l3, l4, l5⟩ := hl
  simp [Tryz.f174, dl174, h0, h1]
  obtain ⟨v1, g1, e1, o1, k1⟩ := Own.appSM (cx := cx) (f := T.str) (es := ([] : List (List Nat))) (Own.nil (H.cons hE ⟨6, 0, 0, true, false, [w.t]⟩) 0 1) cxty25 ty25_u cxty9 rfl (by simp) (by simp) va (by simp; omega)
  have b1 := k1.get 0 ⟨6, 0, 0, true, false, [w.t]⟩ (by simp) (by simp)
  have ok1 := k1.ok 1 ⟨by simp, by simp, by simp⟩
  simp [e1, b1]
  refine W_each w.locks.length (by omega) (fun k vs h => Ok1 1 h ∧ h.get 0 = some ⟨6, 0, 0, true, false, [w.t]⟩ ∧ TI.look vs 2 = some (.ptr 0 0 0 0) ∧ TI.look vs 17 = some (sl (w.locks.map NLock.t)) ∧ TI.look vs 18 = some (.int .i64 w.locks.length) ∧ TI.look vs 19 = some (.int .i64 k) ∧
    ∃ v, TI.look vs 5 = some v ∧ Own h 0 v 1 ((va ++ (w.locks.take k).map (·.name)).map T.str)) ?_ ?_ (by omega) ?_
  · rintro k vs h hlt hadd ⟨ok, b0, h2, h17, h18, h19, v, h5, ho⟩
    have hk : (k : Int) < w.locks.length := by omega
    obtain ⟨v2, g2, e2, o2, k2⟩ := (ho.cons ⟨2, 0, 1, true, false, [(w.locks[k]).t]⟩).appSM1 (cx := cx) cxty25 ty25_u cxty9 rfl (by simp) (by simp) (w.locks[k]).name (by simp; omega)
    rw [show (H.cons h ⟨2, 0, 1, true, false, [(w.locks[k]).t]⟩).size = h.size + 1 from rfl] at e2
    have b2 := k2.get 0 _ (by rw [get_consN, if_neg (by have := ok.sz; omega)]; exact b0) (by simp)
    simp [b0, h2, h17, h18, h19, h5, hk, hlt, ok.low, e2, hadd]
    refine ⟨k2.ok 1 (ok.cons _), b2, ?_⟩
    simpa [take_succ_map _ _ hlt] using o2
  rotate_left
  · simp [h1]
    exact ⟨ok1, b1, by simpa using o1⟩
  rintro vs h ⟨ok, b0, h2, h17, h18, h19, v, h5, ho⟩
  simp [b0, h2, h17, h18, h19, h5]
  rw [List.take_length] at ho
  refine W_each w.conds.length (by omega) (fun k vs h => Ok1 1 h ∧ h.get 0 = some ⟨6, 0, 0, true, false, [w.t]⟩ ∧ TI.look vs 2 = some (.ptr 0 0 0 0) ∧ TI.look vs 30 = some (sl (w.conds.map NCond.t)) ∧ TI.look vs 31 = some (.int .i64 w.conds.length) ∧ TI.look vs 32 = some (.int .i64 k) ∧
    ∃ v, TI.look vs 5 = some v ∧ Own h 0 v 1 ((va ++ w.locks.map (·.name) ++ (w.conds.take k).map (·.name)).map T.str)) ?_ ?_ (by omega) ?_
  · rintro k vs h hlt hadd ⟨ok, b0, h2, h17, h18, h19, v, h5, ho⟩
    have hk : (k : Int) < w.conds.length := by omega
    obtain ⟨v2, g2, e2, o2, k2⟩ := (ho.cons ⟨2, 0, 1, true, false, [(w.conds[k]).t]⟩).appSM1 (cx := cx) cxty25 ty25_u cxty9 rfl (by simp) (by simp) (w.conds[k]).name (by simp; omega)
    rw [show (H.cons h ⟨2, 0, 1, true, false, [(w.conds[k]).t]⟩).size = h.size + 1 from rfl] at e2
    have b2 := k2.get 0 _ (by rw [get_consN, if_neg (by have := ok.sz; omega)]; exact b0) (by simp)
    simp [b0, h2, h17, h18, h19, h5, hk, hlt, ok.low, e2, hadd]
    refine ⟨k2.ok 1 (ok.cons _), b2, ?_⟩
    simpa [take_succ_map _ _ hlt] using o2
  rotate_left
  · simp [h2, b0, h5]
    exact ⟨ok, by simpa using ho⟩
  rintro vs h ⟨ok, b0, h2, h17, h18, h19, v, h5, ho⟩
  rw [List.take_length] at ho
  obtain ⟨v3, g3, e3, o3, k3⟩ := ho.appSM (cx := cx) cxty25 ty25_u cxty9 rfl (by simp) (by simp) w.futures (by simp; omega)
  have b3 := k3.get 0 _ b0 (by simp)
  obtain ⟨v4, g4, e4, o4, k4⟩ := o3.appSM (cx := cx) cxty25 ty25_u cxty9 rfl (by simp) (by simp) w.threads (by simp; omega)
  have ok4 := k4.ok 1 (k3.ok 1 ok)
  simp [b0, h2, h17, h18, h19, h5, e3, b3, e4, mmK_map ty103 9 4 rfl]
  have hL : namesOf w va = va ++ w.locks.map (·.name) ++ w.conds.map (·.name) ++ w.futures ++ w.threads := rfl
  rw [← hL] at o4
  have hLl : (namesOf w va).length ≤ 4000000 + 1000000 := by rw [hL]; simp; omega
  generalize namesOf w va = L at *
  have hlen : ∀ h : H, lenW cx h ty25 v4 = some (.val (.int .i64 L.length) h) := fun h => by
    have := o4.len (cx := cx) h ty25 9 rfl
    rwa [List.length_map] at this
  simp [hlen]
  refine W_each L.length (by omega) (fun k vs h => Ok1 1 h ∧ TI.look vs 51 = some v4 ∧ TI.look vs 52 = some (.int .i64 L.length) ∧ TI.look vs 53 = some (.int .i64 k) ∧ TI.look vs 10 = some (.map g4.size) ∧ (∃ ver, h.get g4.size = some ⟨0, 0, ver, true, true, setE (L.take k)⟩) ∧ Own h 0 v4 1 (L.map T.str) ∧ (L.take k).all nameN = true ∧ (L.take k).Nodup) ?_ ?_ (by omega) ?_
  · rintro k vs h hlt hadd ⟨ok, h51, h52, h53, h10, ⟨ver, gm⟩, ho, hall, hnd⟩
    have hk : (k : Int) < L.length := by omega
    obtain ⟨b, ep, _, hix, ver', ex, gb⟩ := ho.idx (te := ty9) rfl (i := k) (by simpa using hlt)
    have hx : (L.map T.str)[k]? = some (.str L[k]) := by rw [List.getElem?_map, List.getElem?_eq_getElem hlt]; rfl
    have hmem : L[k] ∈ L := List.getElem_mem hlt
    have hspl : L = L.take k ++ L[k] :: L.drop (k + 1) := by rw [← List.drop_eq_getElem_cons hlt, List.take_append_drop]
    have htk : L.take (k + 1) = L.take k ++ [L[k]] := List.take_succ_eq_append_getElem hlt
    generalize L[k] = x at *
    have hlu := luK_set (cx := cx) (ty := ty103) (tk := ty9) (te := ty4) rfl cxty9 cxty4 rfl rfl gm x
    cases hn : nameN x with
    | false =>
      have hr : namesN L = false := by
        unfold namesN
        have : L.all nameN = false := by rw [List.all_eq_false]; exact ⟨x, hmem, by simp [hn]⟩
        rw [this]; rfl
      simp [h51, h52, h53, h10, hk, hix, gb, hx, cName, hn, hr, ok.hp]
    | true =>
      by_cases hin : x ∈ L.take k
      · have hr : namesN L = false := by
          unfold namesN
          have : ¬ L.Nodup := by
            rw [hspl]; intro h
            exact (List.nodup_append.1 h).2.2 x hin x (by simp) rfl
          rw [decide_eq_false this]; simp
        simp [h51, h52, h53, h10, hk, hix, gb, hx, cName, hn, hlu, hin, hr, ok.hp]
      · have hmu := muK_set (cx := cx) (ty := ty103) (tk := ty9) rfl cxty9 rfl gm hin
        have gp := putB_get gm ⟨0, 0, ver + 1, true, true, setE (L.take k ++ [x])⟩ g4.size
        rw [if_pos rfl] at gp
        have okp := ok.put g4.size ⟨0, 0, ver + 1, true, true, setE (L.take k ++ [x])⟩
        have hop := ho.putNe gm (by simp) ⟨0, 0, ver + 1, true, true, setE (L.take k ++ [x])⟩
        simp [h51, h52, h53, h10, hk, hix, gb, hx, cName, hn, hlu, hin, hmu, hadd]
        rw [htk]
        refine ⟨okp, ⟨_, gp⟩, hop, by
          intro y hy
          rcases List.mem_append.1 hy with hy | hy
          · exact List.all_eq_true.1 hall y hy
          · simp at hy; subst hy; exact hn, ?_⟩
        rw [List.nodup_append]
        exact ⟨hnd, by simp, fun a ha b hb => by simp at hb; subst hb; exact fun h => hin (h ▸ ha)⟩
  · rintro vs h ⟨ok, h51, h52, h53, h10, ⟨ver, gm⟩, ho, hall, hnd⟩
    rw [List.take_length] at hall hnd
    have hr : namesN L = true := by unfold namesN; rw [hall, decide_eq_true hnd]; rfl
    simp [h51, h52, h53, h10, hr, ok.hp]
  · simp
    exact ⟨ok4.cons _, rfl, o4.cons _⟩
theorem cNames {tb : Tabs} (ht : tb.p 174 = some rNames) (w : NWorld) (v : List (List Nat)) (hl : v.length ≤ 1000000 ∧ w.locks.length ≤ 1000000 ∧ w.conds.length ≤ 1000000 ∧ w.futures.length ≤ 1000000 ∧ w.threads.length ≤ 1000000) : rl Tryz.prog cx tb 174 [w.t, sl (v.map T.str)] = some (.bool (namesN (namesOf w v))) := rl_of ht okNames (w, v) hl
end Go.Proofs.YtddpfdjgppabhaaGreatDoor
