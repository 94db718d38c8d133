/- Walks: valid worlds. -/
import Derived.Test.YtddpfdjgppabhaaGreatDoorW06h
set_option linter.unusedSimpArgs false
set_option linter.unusedVariables false
namespace Go.Proofs.YtddpfdjgppabhaaGreatDoor
open Go Go.TI
set_option linter.unusedVariables false
set_option linter.unusedSimpArgs false
set_option maxRecDepth 100000
attribute [-simp] List.map_take List.map_drop List.map_append
def rWorld : PRule := ⟨NWorld, fun a => [a.t], fun a => True, fun a => .bool (worldB a), fun a b h => by simp at h; rw [NWorld.inj h]⟩
theorem sizesOk_iff {w : NWorld} : sizesOk w = true ↔ (w.cells.length ≤ 12 ∧ w.locks.length ≤ 4 ∧ w.conds.length ≤ 2 ∧ w.futures.length ≤ 2 ∧ w.sites.length ≤ 60 ∧ 1 ≤ w.threads.length ∧ w.threads.length ≤ 4) := by
  unfold sizesOk; simp; omega
theorem worldB_no {w : NWorld} (h : ¬ (w.cells.length ≤ 12 ∧ w.locks.length ≤ 4 ∧ w.conds.length ≤ 2 ∧ w.futures.length ≤ 2 ∧ w.sites.length ≤ 60 ∧ 1 ≤ w.threads.length ∧ w.threads.length ≤ 4)) : worldB w = false := by
  unfold worldB
  have : sizesOk w = false := by rw [Bool.eq_false_iff]; exact fun k => h (sizesOk_iff.1 k)
  rw [this]; rfl
theorem okWorld : rWorld.Ok Tryz.prog cx 108 := by
  refine walkR (tb := ⟨pt [(173, rCells), (174, rNames), (175, rIsLock), (176, rSites)], ht []⟩) mixed tysOk fn108 (fun a => a.conds.length + 1) (by simp [rWorld]) (by simp [rWorld, Tryz.f108]) ?_
  rintro (w : NWorld) _ vs ha
  simp [rWorld] at ha ⊢
  by_cases c1 : w.cells.length ≤ 12
  rotate_left
  · simp [Tryz.f108, dl108, ha, show (12 : Int) < w.cells.length by omega, worldB_no (w := w) (by omega)]
  have c1' : ¬ (12 : Int) < w.cells.length := by omega
  by_cases c2 : w.locks.length ≤ 4
  rotate_left
  · simp [Tryz.f108, dl108, ha, c1', show (4 : Int) < w.locks.length by omega, worldB_no (w := w) (by omega)]
  have c2' : ¬ (4 : Int) < w.locks.length := by omega
  by_cases c3 : w.conds.length ≤ 2
  rotate_left
  · simp [Tryz.f108, dl108, ha, c1', c2', show (2 : Int) < w.conds.length by omega, worldB_no (w := w) (by omega)]
  have c3' : ¬ (2 : Int) < w.conds.length := by omega
  by_cases c4 : w.futures.length ≤ 2
  rotate_left
  · simp [Tryz.f108, dl108, ha, c1', c2', c3', show (2 : Int) < w.futures.length by omega, worldB_no (w := w) (by omega)]
  have c4' : ¬ (2 : Int) < w.futures.length := by omega
  by_cases c5 : w.sites.length ≤ 60
  rotate_left
  · simp [Tryz.f108, dl108, ha, c1', c2', c3', c4', show (60 : Int) < w.sites.length by omega, worldB_no (w := w) (by omega)]
  have c5' : ¬ (60 : Int) < w.sites.length := by omega
  by_cases c6 : 1 ≤ w.threads.length
  rotate_left
  · simp [Tryz.f108, dl108, ha, c1', c2', c3', c4', c5', show (w.threads.length : Int) < 1 by omega, worldB_no (w := w) (by omega)]
  have c6' : ¬ (w.threads.length : Int) < 1 := by omega
  by_cases c7 : w.threads.length ≤ 4
  rotate_left
  · simp [Tryz.f108, dl108, ha, c1', c2', c3', c4', c5', c6', show (4 : Int) < w.threads.length by omega, worldB_no (w := w) (by omega)]
  have c7' : ¬ (4 : Int) < w.threads.length := by omega
  have hb : worldB w = (worldN w && (w.conds.all fun c => lockB w c.mutex false) && sitesOk w.threads.length 0 0 w.sites) := by
    unfold worldB; rw [sizesOk_iff.2 ⟨c1, c2, c3, c4, c5, c6, c7⟩, Bool.true_and]
  have hcl := fun {tb : Tabs} (ht : tb.p 173 = some rCells) => cCells ht w.cells (by omega)
  cases hv : cellNames w.cells with
  | none =>
    have hr : worldB w = false := by rw [hb]; unfold worldN; rw [hv]; rfl
    have hcr : cellsR w.cells = .tuple [.ewild, .bool false] := by unfold cellsR; rw [hv]
    simp [Tryz.f108, dl108, ha, c1', c2', c3', c4', c5', c6', c7', hcl, hcr, hr]
  | some v =>
    have hcr : cellsR w.cells = .tuple [sl (v.map T.str), .bool true] := by unfold cellsR; rw [hv]
    have hvl := cellNames_len _ _ (Nat.le_refl _) v hv
    have hnm := fun {tb : Tabs} (ht : tb.p 174 = some rNames) => cNames ht w v ⟨by omega, by omega, by omega, by omega, by omega⟩
    have hwn : worldN w = namesN (namesOf w v) := by unfold worldN; rw [hv]
    rw [hwn] at hb
    cases hn : namesN (namesOf w v) with
    | false =>
      have hr : worldB w = false := by rw [hb, hn]; rfl
      simp [Tryz.f108, dl108, ha, c1', c2', c3', c4', c5', c6', c7', hcl, hcr, hnm, hn, hr]
    | true =>
      rw [hn, Bool.true_and] at hb
      simp [Tryz.f108, dl108, ha, c1', c2', c3', c4', c5', c6', c7', hcl, hcr, hnm, hn]
      refine W_each w.conds.length (by omega) (fun k vs h => Ok1 1 h ∧ h.get 0 = some ⟨6, 0, 0, true, false, [w.t]⟩ ∧ TI.look vs 1 = some (.ptr 0 0 0 0) ∧ TI.look vs 60 = some (sl (w.conds.map NCond.t)) ∧ TI.look vs 61 = some (.int .i64 w.conds.length) ∧ TI.look vs 62 = some (.int .i64 k) ∧
        (w.conds.drop k).all (fun c => lockB w c.mutex false) = w.conds.all fun c => lockB w c.mutex false) ?_ ?_ (by omega) ?_
      · rintro k vs h hlt hadd ⟨ok, b0, h1, h60, h61, h62, hm⟩
        have hk : (k : Int) < w.conds.length := by omega
        have hne := ok.ne (b := 0) (by omega)
        rw [List.drop_eq_getElem_cons hlt, List.all_cons] at hm
        cases hl : lockB w (w.conds[k]).mutex false with
        | true =>
          rw [hl, Bool.true_and] at hm
          simp [b0, h1, h60, h61, h62, hk, hlt, hne, ok.low, cIsLock, hl, hadd]
          exact ⟨ok.cons _, hm⟩
        | false =>
          rw [hl, Bool.false_and] at hm
          have hr : worldB w = false := by rw [hb, ← hm]; rfl
          simp [b0, h1, h60, h61, h62, hk, hlt, hne, ok.low, cIsLock, hl, hr, ok.hp]
      · rintro vs h ⟨ok, b0, h1, h60, h61, h62, hm⟩
        have hst := fun {tb : Tabs} (ht : tb.p 176 = some rSites) => cSites ht w (by omega)
        have hr : worldB w = sitesOk w.threads.length 0 0 w.sites := by rw [hb, ← hm]; simp
        simp [b0, h1, h60, h61, h62, hst, hr, ok.hp]
      · simp
        exact ⟨by simp, by simp, by simp⟩
theorem cWorld {tb : Tabs} (ht : tb.p 108 = some rWorld) (w : NWorld) : rl Tryz.prog cx tb 108 [w.t] = some (.bool (worldB w)) := rl_of ht okWorld w trivial
/-- How far the sites are known. -/
def SiteJ (w : NWorld) (k : Nat) : Prop := ∃ t x : Int, 0 ≤ t ∧ 0 ≤ x ∧ x ≤ k ∧ (k = 0 → t = 0 ∧ x = 0) ∧ (∀ j p, k = j + 1 → w.sites[j]? = some p → t = p.thread ∧ x = p.stmt + 1) ∧ sitesOk w.threads.length t x (w.sites.drop k) = sitesOk w.threads.length 0 0 w.sites
theorem SiteJ.zero (w : NWorld) : SiteJ w 0 := ⟨0, 0, by simp, by simp, by simp, by simp, by simp, by simp⟩
theorem SiteJ.fin {w : NWorld} (h : SiteJ w w.sites.length) : sitesOk w.threads.length 0 0 w.sites = true := by
  obtain ⟨t, x, _, _, _, _, _, hm⟩ := h
  rw [← hm, List.drop_length]; rfl
section
variable {w : NWorld} {k : Nat} {s : NSite}
theorem SiteJ.cons (h : SiteJ w k) (hs : w.sites[k]? = some s) : ∃ t x : Int, 0 ≤ t ∧ 0 ≤ x ∧ x ≤ k ∧ (k = 0 → t = 0 ∧ x = 0) ∧ (∀ j p, k = j + 1 → w.sites[j]? = some p → t = p.thread ∧ x = p.stmt + 1) ∧ (if s.thread < t ∨ (w.threads.length : Int) ≤ s.thread then false else
      if t < s.thread then (if s.stmt = 0 then sitesOk w.threads.length s.thread 1 (w.sites.drop (k + 1)) else false) else (if s.stmt = x then sitesOk w.threads.length t (x + 1) (w.sites.drop (k + 1)) else false)) = sitesOk w.threads.length 0 0 w.sites := by
  obtain ⟨t, x, h1, h2, h3, h4, h5, hm⟩ := h
  have hk : k < w.sites.length := by
    rcases Nat.lt_or_ge k w.sites.length with h | h
    · exact h
    · rw [List.getElem?_eq_none h] at hs; simp at hs
  have : w.sites[k] = s := by rw [List.getElem?_eq_getElem hk] at hs; simpa using hs
  refine ⟨t, x, h1, h2, h3, h4, h5, ?_⟩
  rw [← hm, List.drop_eq_getElem_cons hk, this, sitesOk]
theorem SiteJ.bad (h : SiteJ w k) (hs : w.sites[k]? = some s) (hb : s.thread < 0 ∨ (w.threads.length : Int) ≤ s.thread) : sitesOk w.threads.length 0 0 w.sites = false := by
  obtain ⟨t, x, h1, h2, h3, h4, h5, hm⟩ := h.cons hs
  rw [← hm, if_pos (by omega)]
theorem SiteJ.next (h : SiteJ w k) (hs : w.sites[k]? = some s) (h0 : 0 ≤ s.thread) (hn : s.thread < w.threads.length) (h1 : (k = 0 ∧ s.stmt = 0) ∨ ∃ j p, k = j + 1 ∧ w.sites[j]? = some p ∧ ((p.thread = s.thread ∧ s.stmt = p.stmt + 1) ∨ (p.thread < s.thread ∧ s.stmt = 0))) : SiteJ w (k + 1) := by
  obtain ⟨t, x, t0, x0, xk, hz, hp, hm⟩ := h.cons hs
  have hprev : ∀ j p, k + 1 = j + 1 → w.sites[j]? = some p → p = s := by
    intro j p hj hq
    have : j = k := by omega
    subst this
    rw [hs] at hq; simpa using hq.symm
  have fin : ∀ x' : Int, x' = s.stmt + 1 → 0 ≤ x' → x' ≤ k + 1 → sitesOk w.threads.length s.thread x' (w.sites.drop (k + 1)) = sitesOk w.threads.length 0 0 w.sites → SiteJ w (k + 1) := by
    intro x' e1 e2 e3 e4
    exact ⟨s.thread, x', h0, e2, by omega, by simp, fun j p hj hq => by rw [hprev j p hj hq]; exact ⟨rfl, e1⟩, e4⟩
  rcases h1 with ⟨rfl, hst⟩ | ⟨j, p, rfl, hj, hor⟩
  · obtain ⟨rfl, rfl⟩ := hz rfl
    rw [if_neg (by omega)] at hm
    refine fin 1 (by omega) (by omega) (by omega) ?_
    rw [← hm]
    by_cases hlt : 0 < s.thread
    · rw [if_pos hlt, if_pos hst]
    · rw [if_neg hlt, if_pos hst]
      have : s.thread = 0 := by omega
      rw [this]; rfl
  · obtain ⟨rfl, rfl⟩ := hp j p rfl hj
    rcases hor with ⟨e1, e2⟩ | ⟨e1, e2⟩
    · rw [if_neg (by omega), if_neg (by omega), if_pos e2] at hm
      refine fin (p.stmt + 1 + 1) (by omega) (by omega) (by omega) ?_
      rw [← hm, e1]
    · rw [if_neg (by omega), if_pos e1, if_pos e2] at hm
      exact fin 1 (by omega) (by omega) (by omega) hm
theorem SiteJ.no (h : SiteJ w k) (hs : w.sites[k]? = some s) (h1 : (k = 0 ∧ s.stmt ≠ 0) ∨ ∃ j p, k = j + 1 ∧ w.sites[j]? = some p ∧ ((p.thread = s.thread ∧ s.stmt ≠ p.stmt + 1) ∨ s.thread < p.thread ∨ (p.thread ≠ s.thread ∧ s.stmt ≠ 0))) : sitesOk w.threads.length 0 0 w.sites = false := by
  obtain ⟨t, x, t0, x0, xk, hz, hp, hm⟩ := h.cons hs
  rw [← hm]
  rcases h1 with ⟨rfl, hst⟩ | ⟨j, p, rfl, hj, hor⟩
  · obtain ⟨rfl, rfl⟩ := hz rfl
    rw [if_neg hst, if_neg hst]; simp
  · obtain ⟨rfl, rfl⟩ := hp j p rfl hj
    rcases hor with ⟨e1, e2⟩ | e1 | ⟨e1, e2⟩
    · rw [if_neg e2, if_neg (show ¬ p.thread < s.thread by omega)]; simp
    · rw [if_pos (.inl e1)]
    · by_cases hlt : s.thread < p.thread
      · rw [if_pos (.inl hlt)]
      · rw [if_neg e2, if_pos (show p.thread < s.thread by omega)]; simp
theorem SiteJ.rng (h : SiteJ w k) {j : Nat} {p : NSite} (hk : k = j + 1) (hj : w.sites[j]? = some p) : 0 ≤ p.stmt + 1 ∧ p.stmt + 1 ≤ k := by
  obtain ⟨t, x, t0, x0, xk, hz, hp, hm⟩ := h
  obtain ⟨_, rfl⟩ := hp j p hk hj
  exact ⟨x0, xk⟩
end
set_option maxHeartbeats 1000000 in
theorem okWorld06 : rWorld.Ok Tryz.prog cx 10 := by
  refine walkR (tb := ⟨pt [(31, rNames06), (32, rName), (33, rAt)], ht []⟩) mixed tysOk fn10 (fun a => 100) (by simp [rWorld]) (by simp [rWorld, Tryz.f10]) ?_
  rintro (w : NWorld) _ vs ha
  simp [rWorld] at ha ⊢
  by_cases c1 : w.cells.length ≤ 12
  rotate_left
  · simp [Tryz.f10, dl10, ha, show (12 : Int) < w.cells.length by omega, worldB_no (w := w) (by omega)]
  have c1' : ¬ (12 : Int) < w.cells.length := by omega
  by_cases c2 : w.locks.length ≤ 4
  rotate_left
  · simp [Tryz.f10, dl10, ha, c1', show (4 : Int) < w.locks.length by omega, worldB_no (w := w) (by omega)]
  have c2' : ¬ (4 : Int) < w.locks.length := by omega
  by_cases c3 : w.conds.length ≤ 2
  rotate_left
  · simp [Tryz.f10, dl10, ha, c1', c2', show (2 : Int) < w.conds.length by omega, worldB_no (w := w) (by omega)]
  have c3' : ¬ (2 : Int) < w.conds.length := by omega
  by_cases c4 : w.futures.length ≤ 2
  rotate_left
  · simp [Tryz.f10, dl10, ha, c1', c2', c3', show (2 : Int) < w.futures.length by omega, worldB_no (w := w) (by omega)]
  have c4' : ¬ (2 : Int) < w.futures.length := by omega
  by_cases c6 : 1 ≤ w.threads.length
  rotate_left
  · simp [Tryz.f10, dl10, ha, c1', c2', c3', c4', show (w.threads.length : Int) < 1 by omega, worldB_no (w := w) (by omega)]
  have c6' : ¬ (w.threads.length : Int) < 1 := by omega
  by_cases c7 : w.threads.length ≤ 4
  rotate_left
  · simp [Tryz.f10, dl10, ha, c1', c2', c3', c4', c6', show (4 : Int) < w.threads.length by omega, worldB_no (w := w) (by omega)]
  have c7' : ¬ (4 : Int) < w.threads.length := by omega
  by_cases c5 : w.sites.length ≤ 60
  rotate_left
  · simp [Tryz.f10, dl10, ha, c1', c2', c3', c4', c6', c7', show (60 : Int) < w.sites.length by omega, worldB_no (w := w) (by omega)]
  have c5' : ¬ (60 : Int) < w.sites.length := by omega
  have hb : worldB w = (worldN w && (w.conds.all fun c => lockB w c.mutex false) && sitesOk w.threads.length 0 0 w.sites) := by
    unfold worldB; rw [sizesOk_iff.2 ⟨c1, c2, c3, c4, c5, c6, c7⟩, Bool.true_and]
  have hcl := fun {tb : Tabs} (ht : tb.p 31 = some rNames06) => cNames06 ht w ⟨by omega, by omega, by omega, by omega, by omega⟩
  cases hv : cellNames w.cells with
  | none =>
    have hr : worldB w = false := by rw [hb]; unfold worldN; rw [hv]; rfl
    have hcr : namesR w = .tuple [.ewild, .bool false] := by unfold namesR; rw [hv]
    simp [Tryz.f10, dl10, ha, c1', c2', c3', c4', c5', c6', c7', hcl, hcr, hr]
  | some v =>
    have hcr : namesR w = .tuple [sl ((namesOf w v).map T.str), .bool true] := by unfold namesR; rw [hv]
    have hvl := cellNames_len _ _ (Nat.le_refl _) v hv
    have hwn : worldN w = namesN (namesOf w v) := by unfold worldN; rw [hv]
    have hLl : (namesOf w v).length ≤ 24 := by unfold namesOf; simp; omega
    rw [hwn] at hb
    generalize namesOf w v = L at *
    simp [Tryz.f10, dl10, ha, c1', c2', c3', c4', c5', c6', c7', hcl, hcr]
    refine W_each L.length (by omega) (fun k vs h => Ok1 1 h ∧ h.get 0 = some ⟨6, 0, 0, true, false, [w.t]⟩ ∧ TI.look vs 1 = some (.ptr 0 0 0 0) ∧ TI.look vs 3 = some (sl (L.map T.str)) ∧ TI.look vs 5 = some (.int .i64 k) ∧ (L.take k).all nameN = true ∧ (L.take k).Nodup) ?_ ?_ (by omega) ?_
    · rintro k vs h hlt hadd ⟨ok, b0, h1, h3, h5, hall, hnd⟩
      have hk : (k : Int) < L.length := by omega
      have hmem : L[k] ∈ L := List.getElem_mem hlt
      have hspl : L = L.take k ++ L[k] :: L.drop (k + 1) := by rw [← List.drop_eq_getElem_cons hlt, List.take_append_drop]
      have htk : L.take (k + 1) = L.take k ++ [L[k]] := List.take_succ_eq_append_getElem hlt
      have hxk : L[k]? = some L[k] := List.getElem?_eq_getElem hlt
      generalize L[k] = x at *
      have hat := fun {tb : Tabs} (ht : tb.p 33 = some rAt) => cAt ht (L.take k) x (by rw [List.length_take]; omega)
      have hle : k ≤ L.length := by omega
      cases hn : nameN x with
      | false =>
        have hr : worldB w = false := by
          rw [hb]
          have : namesN L = false := by
            unfold namesN
            have : L.all nameN = false := by rw [List.all_eq_false]; exact ⟨x, hmem, by simp [hn]⟩
            rw [this]; rfl
          rw [this]; rfl
        simp [b0, h1, h3, h5, hk, hxk, cName01, hn, hr, ok.hp]
      | true =>
        by_cases hin : x ∈ L.take k
        · have hr : worldB w = false := by
            rw [hb]
            have : namesN L = false := by
              unfold namesN
              have : ¬ L.Nodup := by
                rw [hspl]; intro h
                exact (List.nodup_append.1 h).2.2 x hin x (by simp) rfl
              rw [decide_eq_false this]; simp
            rw [this]; rfl
          have hge : (0 ≤ atN (L.take k) x 0) = True := by rw [atN_neg]; simp [hin]
          simp [b0, h1, h3, h5, hk, hxk, cName01, hn, hat, hle, hge, hr, ok.hp]
        · have hge : (0 ≤ atN (L.take k) x 0) = False := by rw [atN_neg]; simp [hin]
          simp [b0, h1, h3, h5, hk, hxk, cName01, hn, hat, hle, hge, hadd]
          rw [htk]
          refine ⟨ok, ?_, ?_⟩
          · intro y hy
            rcases List.mem_append.1 hy with hy | hy
            · exact List.all_eq_true.1 hall y hy
            · simp at hy; subst hy; exact hn
          · rw [List.nodup_append]
            exact ⟨hnd, by simp, fun a ha b hb => by simp at hb; subst hb; exact fun h => hin (h ▸ ha)⟩
    rotate_left
    · simp
      exact ⟨by simp, by simp, by simp⟩
    rintro vs h ⟨ok, b0, h1, h3, h5, hall, hnd⟩
    rw [List.take_length] at hall hnd
    have hNt : namesN L = true := by unfold namesN; rw [hall, decide_eq_true hnd]; rfl
    rw [hNt, Bool.true_and] at hb
    simp [b0, h1, h3, h5]
    refine W_each w.conds.length (by omega) (fun k vs h => Ok1 1 h ∧ h.get 0 = some ⟨6, 0, 0, true, false, [w.t]⟩ ∧ TI.look vs 1 = some (.ptr 0 0 0 0) ∧ TI.look vs 6 = some (.int .i64 k) ∧
        (w.conds.drop k).all (fun c => lockB w c.mutex false) = w.conds.all fun c => lockB w c.mutex false) ?_ ?_ (by omega) ?_
    · rintro k vs h hlt hadd ⟨ok, b0, h1, h6, hm⟩
      have hk : (k : Int) < w.conds.length := by omega
      have hck : w.conds[k]? = some w.conds[k] := List.getElem?_eq_getElem hlt
      rw [List.drop_eq_getElem_cons hlt, List.all_cons] at hm
      generalize w.conds[k] = c at *
      obtain ⟨cn, m⟩ := c
      simp only at hm
      by_cases hi : inI m w.locks.length = true
      · obtain ⟨x, hx, hy⟩ := atI_in hi
        have hi' := inI_iff.1 hi
        have d1 : ¬ m < 0 := by omega
        have d2 : ¬ (w.locks.length : Int) ≤ m := by omega
        have hlb : lockB w m false = !x.rW := by unfold lockB; rw [hy]; simp
        cases hrw : x.rW with
        | false =>
          rw [hlb, hrw] at hm
          simp [b0, h1, h6, hk, hck, d1, d2, toIdxI_of hi'.1, hx, hrw, hadd]
          exact ⟨ok, by simpa using hm⟩
        | true =>
          rw [hlb, hrw] at hm
          have hr : worldB w = false := by rw [hb, ← hm]; rfl
          simp [b0, h1, h6, hk, hck, d1, d2, toIdxI_of hi'.1, hx, hrw, hr, ok.hp]
      · have hi' : inI m w.locks.length = false := by simpa using hi
        have hn := inI_false hi'
        have hlb : lockB w m false = false := by unfold lockB; rw [atI_out hi']
        rw [hlb] at hm
        have hr : worldB w = false := by rw [hb, ← hm]; rfl
        by_cases d1 : m < 0
        · simp [b0, h1, h6, hk, hck, d1, hr, ok.hp]
        · have d2 : (w.locks.length : Int) ≤ m := by omega
          simp [b0, h1, h6, hk, hck, d1, d2, hr, ok.hp]
    rotate_left
    · simp [h1, b0]
      exact ok
    rintro vs h ⟨ok, b0, h1, h6, hm⟩
    have hCt : (w.conds.all fun c => lockB w c.mutex false) = true := by rw [← hm]; simp
    rw [hCt, Bool.true_and] at hb
    simp [b0, h1, h6]
    have hfalse : sitesOk w.threads.length 0 0 w.sites = false → worldB w = false := fun h => by rw [hb, h]
    refine W_each w.sites.length (by omega) (fun k vs h => Ok1 1 h ∧ h.get 0 = some ⟨6, 0, 0, true, false, [w.t]⟩ ∧ TI.look vs 1 = some (.ptr 0 0 0 0) ∧ TI.look vs 8 = some (.int .i64 k) ∧ SiteJ w k) ?_ ?_ (by omega) ?_
    · rintro k vs h hlt hadd ⟨ok, b0, h1, h8, hJ⟩
      have hk : (k : Int) < w.sites.length := by omega
      have hck : w.sites[k]? = some w.sites[k] := List.getElem?_eq_getElem hlt
      have hne := ok.ne (b := 0) (by omega)
      generalize w.sites[k] = s at *
      obtain ⟨st, sn, sli⟩ := s
      by_cases d1 : st < 0
      · have hr := hfalse (hJ.bad hck (.inl d1))
        simp [b0, h1, h8, hk, hck, hne, ok.low, d1, hr, ok.hp]
      by_cases d2 : (w.threads.length : Int) ≤ st
      · have hr := hfalse (hJ.bad hck (.inr d2))
        simp [b0, h1, h8, hk, hck, hne, ok.low, d1, d2, hr, ok.hp]
      by_cases hk0 : k = 0
      · have hkz : (k = 0) = True := by simp [hk0]
        have hkp : (0 < k) = False := by simp; omega
        by_cases d3 : sn = 0
        · have hJ' := hJ.next hck (by simp only; omega) (by simp only; omega) (.inl ⟨hk0, d3⟩)
          subst d3
          simp [b0, h1, h8, hk, hck, hne, ok.low, d1, d2, hkz, hkp, hadd]
          exact ⟨ok.cons _, hJ'⟩
        · have hr := hfalse (hJ.no hck (.inl ⟨hk0, d3⟩))
          simp [b0, h1, h8, hk, hck, hne, ok.low, d1, d2, hkz, d3, hr, ok.hp]
      · obtain ⟨j, hK⟩ : ∃ j, k = j + 1 := ⟨k - 1, by omega⟩
        have hpj : w.sites[j]? = some w.sites[j] := List.getElem?_eq_getElem (by omega)
        generalize w.sites[j] = p at *
        have hrng := hJ.rng hK hpj
        have hsub := binop_sub (a := (k : Int)) (b := 1) (by omega) (by omega)
        rw [show (k : Int) - 1 = (j : Int) by omega] at hsub
        obtain ⟨pt', pn, pli⟩ := p
        have hadd2 := binop_add (a := pn) (b := 1) (by simp only at hrng; omega) (by simp only at hrng; omega)
        have hKz : (k = 0) = False := by simp; omega
        have hKp : (0 < k) = True := by simp; omega
        by_cases d3 : pt' = st
        · by_cases d4 : sn = pn + 1
          · have hJ' := hJ.next hck (by simp only; omega) (by simp only; omega) (.inr ⟨j, _, hK, hpj, .inl ⟨d3, d4⟩⟩)
            subst d3 d4
            simp [b0, h1, h8, hk, hck, hne, ok.low, d1, d2, hKz, hKp, hsub, hpj, hadd2, hadd]
            exact ⟨ok.cons _, hJ'⟩
          · have hr := hfalse (hJ.no hck (.inr ⟨j, _, hK, hpj, .inl ⟨d3, d4⟩⟩))
            subst d3
            simp [b0, h1, h8, hk, hck, hne, ok.low, d1, d2, hKz, hKp, hsub, hpj, hadd2, d4, hr, ok.hp]
        · by_cases d4 : sn = 0
          · by_cases d5 : st < pt'
            · have hr := hfalse (hJ.no hck (.inr ⟨j, _, hK, hpj, .inr (.inl d5)⟩))
              subst d4
              simp [b0, h1, h8, hk, hck, hne, ok.low, d1, d2, hKz, hKp, hsub, hpj, d3, d5, hr, ok.hp]
            · have hJ' := hJ.next hck (by simp only; omega) (by simp only; omega) (.inr ⟨j, _, hK, hpj, .inr ⟨by simp only; omega, d4⟩⟩)
              subst d4
              simp [b0, h1, h8, hk, hck, hne, ok.low, d1, d2, hKz, hKp, hsub, hpj, d3, d5, hadd]
              exact ⟨ok.cons _, hJ'⟩
          · have hr := hfalse (hJ.no hck (.inr ⟨j, _, hK, hpj, .inr (.inr ⟨d3, d4⟩)⟩))
            simp [b0, h1, h8, hk, hck, hne, ok.low, d1, d2, hKz, hKp, hsub, hpj, d3, d4, hr, ok.hp]
    · rintro vs h ⟨ok, b0, h1, h8, hJ⟩
      have hr : worldB w = true := by rw [hb, hJ.fin]
      simp [b0, h1, h8, hr, ok.hp]
    · simp [h1, b0]
      exact ⟨ok, SiteJ.zero w⟩
theorem cWorld06 {tb : Tabs} (ht : tb.p 10 = some rWorld) (w : NWorld) : rl Tryz.prog cx tb 10 [w.t] = some (.bool (worldB w)) := rl_of ht okWorld06 w trivial
end Go.Proofs.YtddpfdjgppabhaaGreatDoor
