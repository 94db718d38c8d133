/- Walks: ref06.validThread, valid codes. -/
import Derived.Test.YtddpfdjgppabhaaGreatDoorW06j
set_option linter.unusedSimpArgs false
set_option linter.unusedVariables false
namespace Go.Proofs.YtddpfdjgppabhaaGreatDoor
open Go Go.TI
set_option linter.unusedVariables false
set_option linter.unusedSimpArgs false
set_option maxRecDepth 100000
attribute [-simp] List.map_take List.map_drop List.map_append
theorem cThread {tb : Tabs} (ht : tb.p 109 = some rThread) (w : NWorld) (t : Int) (c : NThreadCode) (hl : c.instrs.length ≤ 4398046511104) : rl Tryz.prog cx tb 109 [w.t, .int .i64 t, c.t] = some (.bool (threadB w t c)) := rl_of ht okThread (w, t, c) hl
set_option maxHeartbeats 1000000 in
theorem okThread06 : rThread.Ok Tryz.prog cx 11 := by
  refine walkR (tb := ⟨pt [(36, rIn ()), (34, rObjects), (35, rLands), (37, rRegisters)], ht []⟩) mixed tysOk fn11 (fun a => a.2.2.instrs.length + 5) (by simp [rThread]) (by simp [rThread, Tryz.f11]) ?_
  rintro ⟨w, t, ⟨regs, l⟩⟩ hl vs ha
  simp [rThread] at hl ha ⊢
  obtain ⟨h0, h1, h2⟩ := ha
  have hb : threadB w t ⟨regs, l⟩ = (decide (0 ≤ regs ∧ regs ≤ 32) && decide (l ≠ []) && allI (fun k i => instrB w t regs l.length k i && lands l (l.length + 1) k) 0 l) := by
    rw [allI_and, ← Bool.and_assoc]; rfl
  by_cases c1 : regs < 0
  · have hr : threadB w t ⟨regs, l⟩ = false := by rw [hb, decide_eq_false (by omega)]; rfl
    simp [Tryz.f11, dl11, h0, h1, h2, c1, hr]
  by_cases c2 : 32 < regs
  · have hr : threadB w t ⟨regs, l⟩ = false := by rw [hb, decide_eq_false (by omega)]; rfl
    simp [Tryz.f11, dl11, h0, h1, h2, c1, c2, hr]
  by_cases c3 : l = []
  · subst c3
    have hr : threadB w t ⟨regs, []⟩ = false := by rw [hb]; simp
    simp [Tryz.f11, dl11, h0, h1, h2, c1, c2, hr]
  rw [decide_eq_true (by omega), decide_eq_true c3, Bool.true_and, Bool.true_and] at hb
  generalize threadB w t ⟨regs, l⟩ = B at *
  have hlen : 0 < l.length := by cases l with | nil => exact absurd rfl c3 | cons => simp
  simp [Tryz.f11, dl11, h0, h1, h2, c1, c2, c3]
  refine W_each l.length (by omega) (fun k vs h => Ok1 2 h ∧ h.get 0 = some ⟨6, 0, 0, true, false, [w.t]⟩ ∧ h.get 1 = some ⟨2, 0, 0, true, false, [NThreadCode.t ⟨regs, l⟩]⟩ ∧ TI.look vs 3 = some (.ptr 0 0 0 0) ∧ TI.look vs 5 = some (.ptr 1 0 0 0) ∧ TI.look vs 1 = some (.int .i64 t) ∧ TI.look vs 7 = some (.int .i64 l.length) ∧ TI.look vs 8 = some (.int .i64 k) ∧
    allI (fun k i => instrB w t regs l.length k i && lands l (l.length + 1) k) k (l.drop k) = allI (fun k i => instrB w t regs l.length k i && lands l (l.length + 1) k) 0 l) ?_ ?_ (by omega) ?_
  · rintro k vs h hlt hadd ⟨ok, b0, b1, h3, h5, h1, h7, h8, hm⟩
    have hk : (k : Int) < l.length := by omega
    have hlk : l[k]? = some l[k] := List.getElem?_eq_getElem hlt
    rw [allI_drop _ _ hlt] at hm
    have hn0 := ok.ne (b := 0) (by omega)
    have hn1 := ok.ne (b := 1) (by omega)
    generalize l[k] = ins at *
    have hfalse : (instrB w t regs l.length k ins && lands l (l.length + 1) k) = false → B = false := by
      intro h; rw [h, Bool.false_and] at hm; rw [hb, ← hm]
    have hI : instrB w t regs l.length k ins = (decide (1 ≤ ins.op ∧ ins.op ≤ 28) && (decide (ins.op = 28) == decide (k + 1 = l.length)) && siteB w t ins && ((regsOf ins).all fun r => inII r regs) && (objectsB w ins && jumpsB l.length ins)) := rfl
    have hsub := binop_sub (a := l.length) (b := 1) (by omega) (by omega)
    have hld := fun {tb : Tabs} (ht : tb.p 35 = some rLands) => cLands ht l k (by omega)
    have hrl := regs_len ins
    obtain ⟨I, hII⟩ : ∃ I : NInstr, I = ins := ⟨_, rfl⟩
    obtain ⟨op, a, b, c, n, site⟩ := ins
    simp only at hI
    have ok8 := ok.cons ⟨6, 0, 1, true, false, [NInstr.t ⟨op, a, b, c, n, site⟩]⟩
    by_cases d1 : op < 1
    · have hr := hfalse (by rw [hI, decide_eq_false (by omega)]; rfl)
      simp [b0, b1, h3, h5, h1, h7, h8, hk, hlk, hn0, hn1, ok.low, d1, hr, ok.hp]
    by_cases d2 : 28 < op
    · have hr := hfalse (by rw [hI, decide_eq_false (by omega)]; rfl)
      simp [b0, b1, h3, h5, h1, h7, h8, hk, hlk, hn0, hn1, ok.low, d1, d2, hr, ok.hp]
    rw [decide_eq_true (by omega), Bool.true_and] at hI
    have hkl : (decide ((k : Int) = (l.length : Int) - 1)) = decide (k + 1 = l.length) := by rw [decide_eq_decide]; omega
    by_cases d3 : (decide (op = 28) == decide (k + 1 = l.length)) = true
    rotate_left
    · have d3' : (decide (op = 28) == decide (k + 1 = l.length)) = false := by simpa using d3
      have hr := hfalse (by rw [hI, d3']; rfl)
      by_cases e1 : op = 28
      · have e2 : decide (k + 1 = l.length) = false := by cases e3 : decide (k + 1 = l.length) with | false => rfl | true => rw [e3, decide_eq_true e1] at d3'; simp at d3'
        rw [e2] at hkl
        subst e1
        simp [b0, b1, h3, h5, h1, h7, h8, hk, hlk, hn0, hn1, ok.low, hsub, hkl, hr, ok.hp]
      · have e2 : decide (k + 1 = l.length) = true := by cases e3 : decide (k + 1 = l.length) with | true => rfl | false => rw [e3, decide_eq_false e1] at d3'; simp at d3'
        rw [e2] at hkl
        simp [b0, b1, h3, h5, h1, h7, h8, hk, hlk, hn0, hn1, ok.low, d1, d2, hsub, e1, hkl, hr, ok.hp]
    rw [d3, Bool.true_and] at hI
    have rest0 : (op = 28 ∧ decide ((k : Int) = (l.length : Int) - 1) = true) ∨ (¬ op = 28 ∧ decide ((k : Int) = (l.length : Int) - 1) = false) := by
      by_cases e1 : op = 28
      · have e2 : decide (k + 1 = l.length) = true := by cases e3 : decide (k + 1 = l.length) with | true => rfl | false => rw [e3, decide_eq_true e1] at d3; simp at d3
        exact .inl ⟨e1, by rw [hkl, e2]⟩
      · have e2 : decide (k + 1 = l.length) = false := by cases e3 : decide (k + 1 = l.length) with | false => rfl | true => rw [e3, decide_eq_false e1] at d3; simp at d3
        exact .inr ⟨e1, by rw [hkl, e2]⟩
    cases ho : objectsB w ⟨op, a, b, c, n, site⟩ with
    | false =>
      have hr := hfalse (by rw [hI, ho]; simp)
      rcases rest0 with ⟨e1, e3⟩ | ⟨e1, e3⟩
      · subst e1
        simp [b0, b1, h3, h5, h1, h7, h8, hk, hlk, hn0, hn1, ok.low, hsub, e3, cObjects, ho, hr, ok.hp]
      · simp [b0, b1, h3, h5, h1, h7, h8, hk, hlk, hn0, hn1, ok.low, d1, d2, hsub, e1, e3, cObjects, ho, hr, ok.hp]
    | true =>
    rw [ho, Bool.true_and] at hI
    cases hla : lands l (l.length + 1) k with
    | false =>
      have hr := hfalse (by rw [hla]; simp)
      rcases rest0 with ⟨e1, e3⟩ | ⟨e1, e3⟩
      · subst e1
        simp [b0, b1, h3, h5, h1, h7, h8, hk, hlk, hn0, hn1, ok.low, hsub, e3, cObjects, ho, hld, hla, hr, ok.hp]
      · simp [b0, b1, h3, h5, h1, h7, h8, hk, hlk, hn0, hn1, ok.low, d1, d2, hsub, e1, e3, cObjects, ho, hld, hla, hr, ok.hp]
    | true =>
    rw [hla, Bool.and_true] at hm hfalse
    cases hs : siteB w t ⟨op, a, b, c, n, site⟩ with
    | false =>
      have hr := hfalse (by rw [hI, hs]; rfl)
      rcases rest0 with ⟨e1, e3⟩ | ⟨e1, e3⟩
      · subst e1
        have hsite : ¬ site = -1 := by simpa [siteB] using hs
        simp [b0, b1, h3, h5, h1, h7, h8, hk, hlk, hn0, hn1, ok.low, hsub, e3, cObjects, ho, hld, hla, hsite, hr, ok.hp]
      · have hs' : siteAt w t site = false := by simpa [siteB, e1] using hs
        cases hin : inI site w.sites.length with
        | false => simp [b0, b1, h3, h5, h1, h7, h8, hk, hlk, hn0, hn1, ok.low, d1, d2, hsub, e1, e3, cObjects, ho, hld, hla, cIn06, hin, hr, ok.hp]
        | true =>
          obtain ⟨x, hx, hy⟩ := atI_in hin
          unfold siteAt at hs'
          rw [hy] at hs'
          have hxt : ¬ x.thread = t := by simpa using hs'
          simp [b0, b1, h3, h5, h1, h7, h8, hk, hlk, hn0, hn1, ok.low, d1, d2, hsub, e1, e3, cObjects, ho, hld, hla, cIn06, hin, toIdxI_of (inI_iff.1 hin).1, hx, hxt, hr, ok.hp]
    | true =>
    rw [hs, Bool.true_and] at hI
    rcases rest0 with ⟨e1, e3⟩ | ⟨e1, e3⟩
    · subst e1
      have hsite : site = -1 := by simpa [siteB] using hs
      subst hsite
      have hj : jumpsB l.length ⟨28, a, b, c, n, -1⟩ = true := rfl
      rw [hj, Bool.and_true] at hI
      simp [b0, b1, h3, h5, h1, h7, h8, hk, hlk, hn0, hn1, ok.low, hsub, e3, cObjects, ho, hld, hla, cRegisters06]
      simp only [← hII] at hrl hI ok8 hlk hm hfalse ⊢
      obtain ⟨RA, hRA⟩ : ∃ RA, RA = (regsOf I).all fun r => inII r regs := ⟨_, rfl⟩
      rw [← hRA] at hI
      refine W_each (regsOf I).length (by omega) (fun j vs h' => Ok1 2 h' ∧ h.size < h'.size ∧ h'.get 0 = some ⟨6, 0, 0, true, false, [w.t]⟩ ∧ h'.get 1 = some ⟨2, 0, 0, true, false, [NThreadCode.t ⟨regs, l⟩]⟩ ∧ TI.look vs 3 = some (.ptr 0 0 0 0) ∧ TI.look vs 5 = some (.ptr 1 0 0 0) ∧ TI.look vs 1 = some (.int .i64 t) ∧ TI.look vs 7 = some (.int .i64 l.length) ∧ TI.look vs 8 = some (.int .i64 k) ∧
        TI.look vs 10 = some (sl ((regsOf I).map (T.int .i64))) ∧ TI.look vs 11 = some (.int .i64 j) ∧ (((regsOf I).drop j).all fun r => inII r regs) = RA) ?_ ?_ (by omega) ?_
      · rintro j vs h' hj hadd' ⟨ok', hs', b0, b1, h3, h5, h1, h7, h8, h10, h11, hR⟩
        have hjl : (j : Int) < (regsOf I).length := by omega
        have hjx : (regsOf I)[j]? = some (regsOf I)[j] := List.getElem?_eq_getElem hj
        rw [List.drop_eq_getElem_cons hj, List.all_cons] at hR
        generalize (regsOf I)[j] = r at *
        cases hw : inII r regs with
        | false =>
          rw [hw, Bool.false_and] at hR
          have hr := hfalse (by rw [hI, ← hR])
          simp [b0, b1, h3, h5, h1, h7, h8, h10, h11, hjl, hjx, cIn06, hw, hr, ok'.hp]
        | true =>
          rw [hw, Bool.true_and] at hR
          simp [b0, b1, h3, h5, h1, h7, h8, h10, h11, hjl, hjx, cIn06, hw, hadd']
          exact ⟨ok', hs', by simpa using hR⟩
      · rintro vs h' ⟨ok', hs', b0, b1, h3, h5, h1, h7, h8, h10, h11, hR⟩
        have hRt : RA = true := by rw [← hR, List.drop_length]; rfl
        rw [hI, hRt, Bool.true_and] at hm
        simp [b0, b1, h3, h5, h1, h7, h8, h10, h11, hadd]
        exact ⟨ok', hm⟩
      · simp [b0, b1, hn0, hn1, h3, h5, h1, h7, h8]
        exact ⟨ok8, hRA.symm⟩
    · have hs' : siteAt w t site = true := by simpa [siteB, e1] using hs
      have hin : inI site w.sites.length = true := by
        cases hin : inI site w.sites.length with
        | false => unfold siteAt at hs'; rw [atI_out hin] at hs'; simp at hs'
        | true => rfl
      obtain ⟨x, hx, hy⟩ := atI_in hin
      unfold siteAt at hs'
      rw [hy] at hs'
      have hxt : x.thread = t := by simpa using hs'
      subst hxt
      by_cases e5 : op = 5
      · subst e5
        cases hj : inI a l.length with
        | false =>
          have hr := hfalse (by rw [hI, show jumpsB l.length ⟨5, a, b, c, n, site⟩ = inI a l.length from rfl, hj]; simp)
          simp [b0, b1, h3, h5, h1, h7, h8, hk, hlk, hn0, hn1, ok.low, hsub, e3, cObjects, ho, hld, hla, cIn06, hin, toIdxI_of (inI_iff.1 hin).1, hx, hj, hr, ok.hp]
        | true =>
          rw [show jumpsB l.length ⟨5, a, b, c, n, site⟩ = inI a l.length from rfl, hj, Bool.and_true] at hI
          simp [b0, b1, h3, h5, h1, h7, h8, hk, hlk, hn0, hn1, ok.low, hsub, e3, cObjects, ho, hld, hla, cIn06, hin, toIdxI_of (inI_iff.1 hin).1, hx, hj, cRegisters06]
          simp only [← hII] at hrl hI ok8 hlk hm hfalse ⊢
          obtain ⟨RA, hRA⟩ : ∃ RA, RA = (regsOf I).all fun r => inII r regs := ⟨_, rfl⟩
          rw [← hRA] at hI
          refine W_each (regsOf I).length (by omega) (fun j vs h' => Ok1 2 h' ∧ h.size < h'.size ∧ h'.get 0 = some ⟨6, 0, 0, true, false, [w.t]⟩ ∧ h'.get 1 = some ⟨2, 0, 0, true, false, [NThreadCode.t ⟨regs, l⟩]⟩ ∧ TI.look vs 3 = some (.ptr 0 0 0 0) ∧ TI.look vs 5 = some (.ptr 1 0 0 0) ∧ TI.look vs 1 = some (.int .i64 x.thread) ∧ TI.look vs 7 = some (.int .i64 l.length) ∧ TI.look vs 8 = some (.int .i64 k) ∧
            TI.look vs 10 = some (sl ((regsOf I).map (T.int .i64))) ∧ TI.look vs 11 = some (.int .i64 j) ∧ (((regsOf I).drop j).all fun r => inII r regs) = RA) ?_ ?_ (by omega) ?_
          · rintro j vs h' hj hadd' ⟨ok', hs', b0, b1, h3, h5, h1, h7, h8, h10, h11, hR⟩
            have hjl : (j : Int) < (regsOf I).length := by omega
            have hjx : (regsOf I)[j]? = some (regsOf I)[j] := List.getElem?_eq_getElem hj
            rw [List.drop_eq_getElem_cons hj, List.all_cons] at hR
            generalize (regsOf I)[j] = r at *
            cases hw : inII r regs with
            | false =>
              rw [hw, Bool.false_and] at hR
              have hr := hfalse (by rw [hI, ← hR])
              simp [b0, b1, h3, h5, h1, h7, h8, h10, h11, hjl, hjx, cIn06, hw, hr, ok'.hp]
            | true =>
              rw [hw, Bool.true_and] at hR
              simp [b0, b1, h3, h5, h1, h7, h8, h10, h11, hjl, hjx, cIn06, hw, hadd']
              exact ⟨ok', hs', by simpa using hR⟩
          · rintro vs h' ⟨ok', hs', b0, b1, h3, h5, h1, h7, h8, h10, h11, hR⟩
            have hRt : RA = true := by rw [← hR, List.drop_length]; rfl
            rw [hI, hRt, Bool.true_and] at hm
            simp [b0, b1, h3, h5, h1, h7, h8, h10, h11, hadd]
            exact ⟨ok', hm⟩
          · simp [b0, b1, hn0, hn1, h3, h5, h1, h7, h8]
            exact ⟨ok8, hRA.symm⟩
      · by_cases e10 : op = 10
        · subst e10
          cases hj : inI b l.length with
          | false =>
            have hr := hfalse (by rw [hI, show jumpsB l.length ⟨10, a, b, c, n, site⟩ = inI b l.length from rfl, hj]; simp)
            simp [b0, b1, h3, h5, h1, h7, h8, hk, hlk, hn0, hn1, ok.low, hsub, e3, cObjects, ho, hld, hla, cIn06, hin, toIdxI_of (inI_iff.1 hin).1, hx, hj, hr, ok.hp]
          | true =>
            rw [show jumpsB l.length ⟨10, a, b, c, n, site⟩ = inI b l.length from rfl, hj, Bool.and_true] at hI
            simp [b0, b1, h3, h5, h1, h7, h8, hk, hlk, hn0, hn1, ok.low, hsub, e3, cObjects, ho, hld, hla, cIn06, hin, toIdxI_of (inI_iff.1 hin).1, hx, hj, cRegisters06]
            simp only [← hII] at hrl hI ok8 hlk hm hfalse ⊢
            obtain ⟨RA, hRA⟩ : ∃ RA, RA = (regsOf I).all fun r => inII r regs := ⟨_, rfl⟩
            rw [← hRA] at hI
            refine W_each (regsOf I).length (by omega) (fun j vs h' => Ok1 2 h' ∧ h.size < h'.size ∧ h'.get 0 = some ⟨6, 0, 0, true, false, [w.t]⟩ ∧ h'.get 1 = some ⟨2, 0, 0, true, false, [NThreadCode.t ⟨regs, l⟩]⟩ ∧ TI.look vs 3 = some (.ptr 0 0 0 0) ∧ TI.look vs 5 = some (.ptr 1 0 0 0) ∧ TI.look vs 1 = some (.int .i64 x.thread) ∧ TI.look vs 7 = some (.int .i64 l.length) ∧ TI.look vs 8 = some (.int .i64 k) ∧
              TI.look vs 10 = some (sl ((regsOf I).map (T.int .i64))) ∧ TI.look vs 11 = some (.int .i64 j) ∧ (((regsOf I).drop j).all fun r => inII r regs) = RA) ?_ ?_ (by omega) ?_
            · rintro j vs h' hj hadd' ⟨ok', hs', b0, b1, h3, h5, h1, h7, h8, h10, h11, hR⟩
              have hjl : (j : Int) < (regsOf I).length := by omega
              have hjx : (regsOf I)[j]? = some (regsOf I)[j] := List.getElem?_eq_getElem hj
              rw [List.drop_eq_getElem_cons hj, List.all_cons] at hR
              generalize (regsOf I)[j] = r at *
              cases hw : inII r regs with
              | false =>
                rw [hw, Bool.false_and] at hR
                have hr := hfalse (by rw [hI, ← hR])
                simp [b0, b1, h3, h5, h1, h7, h8, h10, h11, hjl, hjx, cIn06, hw, hr, ok'.hp]
              | true =>
                rw [hw, Bool.true_and] at hR
                simp [b0, b1, h3, h5, h1, h7, h8, h10, h11, hjl, hjx, cIn06, hw, hadd']
                exact ⟨ok', hs', by simpa using hR⟩
            · rintro vs h' ⟨ok', hs', b0, b1, h3, h5, h1, h7, h8, h10, h11, hR⟩
              have hRt : RA = true := by rw [← hR, List.drop_length]; rfl
              rw [hI, hRt, Bool.true_and] at hm
              simp [b0, b1, h3, h5, h1, h7, h8, h10, h11, hadd]
              exact ⟨ok', hm⟩
            · simp [b0, b1, hn0, hn1, h3, h5, h1, h7, h8]
              exact ⟨ok8, hRA.symm⟩
        · have hj : jumpsB l.length ⟨op, a, b, c, n, site⟩ = true := by unfold jumpsB; rw [if_neg e5, if_neg e10]
          rw [hj, Bool.and_true] at hI
          simp [b0, b1, h3, h5, h1, h7, h8, hk, hlk, hn0, hn1, ok.low, d1, d2, hsub, e1, e3, e5, e10, cObjects, ho, hld, hla, cIn06, hin, toIdxI_of (inI_iff.1 hin).1, hx, cRegisters06]
          simp only [← hII] at hrl hI ok8 hlk hm hfalse ⊢
          obtain ⟨RA, hRA⟩ : ∃ RA, RA = (regsOf I).all fun r => inII r regs := ⟨_, rfl⟩
          rw [← hRA] at hI
          refine W_each (regsOf I).length (by omega) (fun j vs h' => Ok1 2 h' ∧ h.size < h'.size ∧ h'.get 0 = some ⟨6, 0, 0, true, false, [w.t]⟩ ∧ h'.get 1 = some ⟨2, 0, 0, true, false, [NThreadCode.t ⟨regs, l⟩]⟩ ∧ TI.look vs 3 = some (.ptr 0 0 0 0) ∧ TI.look vs 5 = some (.ptr 1 0 0 0) ∧ TI.look vs 1 = some (.int .i64 x.thread) ∧ TI.look vs 7 = some (.int .i64 l.length) ∧ TI.look vs 8 = some (.int .i64 k) ∧
            TI.look vs 10 = some (sl ((regsOf I).map (T.int .i64))) ∧ TI.look vs 11 = some (.int .i64 j) ∧ (((regsOf I).drop j).all fun r => inII r regs) = RA) ?_ ?_ (by omega) ?_
          · rintro j vs h' hj hadd' ⟨ok', hs', b0, b1, h3, h5, h1, h7, h8, h10, h11, hR⟩
            have hjl : (j : Int) < (regsOf I).length := by omega
            have hjx : (regsOf I)[j]? = some (regsOf I)[j] := List.getElem?_eq_getElem hj
            rw [List.drop_eq_getElem_cons hj, List.all_cons] at hR
            generalize (regsOf I)[j] = r at *
            cases hw : inII r regs with
            | false =>
              rw [hw, Bool.false_and] at hR
              have hr := hfalse (by rw [hI, ← hR])
              simp [b0, b1, h3, h5, h1, h7, h8, h10, h11, hjl, hjx, cIn06, hw, hr, ok'.hp]
            | true =>
              rw [hw, Bool.true_and] at hR
              simp [b0, b1, h3, h5, h1, h7, h8, h10, h11, hjl, hjx, cIn06, hw, hadd']
              exact ⟨ok', hs', by simpa using hR⟩
          · rintro vs h' ⟨ok', hs', b0, b1, h3, h5, h1, h7, h8, h10, h11, hR⟩
            have hRt : RA = true := by rw [← hR, List.drop_length]; rfl
            rw [hI, hRt, Bool.true_and] at hm
            simp [b0, b1, h3, h5, h1, h7, h8, h10, h11, hadd]
            exact ⟨ok', hm⟩
          · simp [b0, b1, hn0, hn1, h3, h5, h1, h7, h8]
            exact ⟨ok8, hRA.symm⟩
  · rintro vs h ⟨ok, b0, b1, h3, h5, h1, h7, h8, hm⟩
    rw [List.drop_length, allI] at hm
    rw [← hm] at hb
    simp [b0, b1, h3, h5, h7, h8, hb, ok.hp]
  · simp [h1]
    exact ⟨by simp, by simp, by simp⟩
theorem cThread06 {tb : Tabs} (ht : tb.p 11 = some rThread) (w : NWorld) (t : Int) (c : NThreadCode) (hl : c.instrs.length ≤ 4398046511104) : rl Tryz.prog cx tb 11 [w.t, .int .i64 t, c.t] = some (.bool (threadB w t c)) := rl_of ht okThread06 (w, t, c) hl
/-! codes -/
def rCode : PRule := ⟨NCode, fun a => [a.t], fun a => ∀ x ∈ a.threads, x.instrs.length ≤ 4398046511104, fun a => .bool (codeB a), fun a b h => by simp at h; rw [NCode.inj h]⟩
theorem threads_le {w : NWorld} (h : worldB w = true) : w.threads.length ≤ 4 := by
  unfold worldB at h
  simp only [Bool.and_eq_true] at h
  exact (sizesOk_iff.1 h.1.1.1).2.2.2.2.2.2
theorem okCode : rCode.Ok Tryz.prog cx 69 := by
  refine walkR (tb := ⟨pt [(108, rWorld), (109, rThread)], ht []⟩) mixed tysOk fn69 (fun a => 6) (by simp [rCode]) (by simp [rCode, Tryz.f69]) ?_
  rintro ⟨w, l⟩ hl vs ha
  simp [rCode] at hl ha ⊢
  have hb : codeB ⟨w, l⟩ = (worldB w && decide (l.length = w.threads.length) && allI (fun t x => threadB w t x) 0 l) := rfl
  cases c1 : worldB w with
  | false =>
    have hr : codeB ⟨w, l⟩ = false := by rw [hb, c1]; rfl
    simp [Tryz.f69, dl69, ha, cWorld, c1, hr]
  | true =>
    have h4 := threads_le c1
    by_cases c2 : l.length = w.threads.length
    rotate_left
    · have hr : codeB ⟨w, l⟩ = false := by rw [hb, decide_eq_false c2]; simp
      have c2' : ¬ (l.length : Int) = w.threads.length := by omega
      simp [Tryz.f69, dl69, ha, cWorld, c1, c2', hr]
    rw [c1, decide_eq_true c2, Bool.true_and, Bool.true_and] at hb
    have c2' : (l.length : Int) = w.threads.length := by omega
    generalize codeB ⟨w, l⟩ = B at *
    simp [Tryz.f69, dl69, ha, cWorld, c1, c2']
    refine W_each l.length (by omega) (fun k vs h => Ok1 1 h ∧ h.get 0 = some ⟨7, 0, 0, true, false, [NCode.t ⟨w, l⟩]⟩ ∧ TI.look vs 1 = some (.ptr 0 0 0 0) ∧ TI.look vs 20 = some (sl (l.map NThreadCode.t)) ∧ TI.look vs 21 = some (.int .i64 l.length) ∧ TI.look vs 22 = some (.int .i64 k) ∧
      allI (fun t x => threadB w t x) k (l.drop k) = allI (fun t x => threadB w t x) 0 l) ?_ ?_ (by omega) ?_
    · rintro k vs h hlt hadd ⟨ok, b0, h1, h20, h21, h22, hm⟩
      have hk : (k : Int) < l.length := by omega
      have hlk : l[k]? = some l[k] := List.getElem?_eq_getElem hlt
      have hil := hl l[k] (List.getElem_mem hlt)
      rw [allI_drop _ _ hlt] at hm
      have hn0 := ok.ne (b := 0) (by omega)
      generalize l[k] = x at *
      have hth := fun {tb : Tabs} (ht : tb.p 109 = some rThread) => cThread ht w k x hil
      cases ht : threadB w k x with
      | false =>
        rw [ht, Bool.false_and] at hm
        have hr : B = false := by rw [hb, ← hm]
        simp [b0, h1, h20, h21, h22, hk, hlk, hn0, ok.low, hth, ht, hr, ok.hp]
      | true =>
        rw [ht, Bool.true_and] at hm
        simp [b0, h1, h20, h21, h22, hk, hlk, hn0, ok.low, hth, ht, hadd]
        exact ⟨ok.cons _, hm⟩
    · rintro vs h ⟨ok, b0, h1, h20, h21, h22, hm⟩
      rw [List.drop_length, allI] at hm
      rw [← hm] at hb
      simp [b0, h1, h20, h21, h22, hb, ok.hp]
    · simp [c2']
      exact ⟨by simp, by simp, by simp⟩
theorem cCode {tb : Tabs} (ht : tb.p 69 = some rCode) (c : NCode) (hl : ∀ x ∈ c.threads, x.instrs.length ≤ 4398046511104) : rl Tryz.prog cx tb 69 [c.t] = some (.bool (codeB c)) := rl_of ht okCode c hl
theorem okCode06 : rCode.Ok Tryz.prog cx 4 := by
  refine walkR (tb := ⟨pt [(10, rWorld), (11, rThread)], ht []⟩) mixed tysOk fn4 (fun a => 6) (by simp [rCode]) (by simp [rCode, Tryz.f4]) ?_
  rintro ⟨w, l⟩ hl vs ha
  simp [rCode] at hl ha ⊢
  have hb : codeB ⟨w, l⟩ = (worldB w && decide (l.length = w.threads.length) && allI (fun t x => threadB w t x) 0 l) := rfl
  cases c1 : worldB w with
  | false =>
    have hr : codeB ⟨w, l⟩ = false := by rw [hb, c1]; rfl
    simp [Tryz.f4, dl4, ha, cWorld06, c1, hr]
  | true =>
    have h4 := threads_le c1
    by_cases c2 : l.length = w.threads.length
    rotate_left
    · have hr : codeB ⟨w, l⟩ = false := by rw [hb, decide_eq_false c2]; simp
      have c2' : ¬ (l.length : Int) = w.threads.length := by omega
      simp [Tryz.f4, dl4, ha, cWorld06, c1, c2', hr]
    rw [c1, decide_eq_true c2, Bool.true_and, Bool.true_and] at hb
    have c2' : (l.length : Int) = w.threads.length := by omega
    generalize codeB ⟨w, l⟩ = B at *
    simp [Tryz.f4, dl4, ha, cWorld06, c1, c2']
    refine W_each l.length (by omega) (fun k vs h => Ok1 1 h ∧ h.get 0 = some ⟨7, 0, 0, true, false, [NCode.t ⟨w, l⟩]⟩ ∧ TI.look vs 1 = some (.ptr 0 0 0 0) ∧ TI.look vs 3 = some (.int .i64 k) ∧
      allI (fun t x => threadB w t x) k (l.drop k) = allI (fun t x => threadB w t x) 0 l) ?_ ?_ (by omega) ?_
    · rintro k vs h hlt hadd ⟨ok, b0, h1, h3, hm⟩
      have hk : (k : Int) < l.length := by omega
      have hlk : l[k]? = some l[k] := List.getElem?_eq_getElem hlt
      have hil := hl l[k] (List.getElem_mem hlt)
      rw [allI_drop _ _ hlt] at hm
      generalize l[k] = x at *
      have hth := fun {tb : Tabs} (ht : tb.p 11 = some rThread) => cThread06 ht w k x hil
      cases ht : threadB w k x with
      | false =>
        rw [ht, Bool.false_and] at hm
        have hr : B = false := by rw [hb, ← hm]
        simp [b0, h1, h3, hk, hlk, hth, ht, hr, ok.hp]
      | true =>
        rw [ht, Bool.true_and] at hm
        simp [b0, h1, h3, hk, hlk, hth, ht, hadd]
        exact ⟨ok, hm⟩
    · rintro vs h ⟨ok, b0, h1, h3, hm⟩
      rw [List.drop_length, allI] at hm
      rw [← hm] at hb
      simp [b0, h1, h3, hb, ok.hp]
    · simp
      exact ⟨by simp, by simp, by simp⟩
theorem cCode06 {tb : Tabs} (ht : tb.p 4 = some rCode) (c : NCode) (hl : ∀ x ∈ c.threads, x.instrs.length ≤ 4398046511104) : rl Tryz.prog cx tb 4 [c.t] = some (.bool (codeB c)) := rl_of ht okCode06 c hl
end Go.Proofs.YtddpfdjgppabhaaGreatDoor
