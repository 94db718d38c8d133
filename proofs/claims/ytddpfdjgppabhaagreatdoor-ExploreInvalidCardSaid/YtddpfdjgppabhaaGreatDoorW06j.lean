/- Walks: valid threads, valid codes. -/
import Derived.Test.YtddpfdjgppabhaaGreatDoorW06i
import Derived.Test.YtddpfdjgppabhaaGreatDoorW06g
set_option linter.unusedSimpArgs false
set_option linter.unusedVariables false
namespace Go.Proofs.YtddpfdjgppabhaaGreatDoor
open Go Go.TI
set_option linter.unusedVariables false
set_option linter.unusedSimpArgs false
set_option maxRecDepth 100000
attribute [-simp] List.map_take List.map_drop List.map_append
def rThread : PRule := ⟨NWorld × Int × NThreadCode, fun a => [a.1.t, .int .i64 a.2.1, a.2.2.t], fun a => a.2.2.instrs.length ≤ 4398046511104, fun a => .bool (threadB a.1 a.2.1 a.2.2), fun a b h => by
  simp at h; rw [NWorld.inj h.1, h.2.1, NThreadCode.inj h.2.2]⟩
theorem regs_all (i : NInstr) (regs : Int) : ((regsOf i).all fun r => decide (0 ≤ r ∧ r < regs)) = ((regsOf i).all fun r => inII r regs) := rfl
theorem regs_len (i : NInstr) : (regsOf i).length ≤ 3 := by
  unfold regsOf
  repeat' split
  all_goals simp
/-- Codes whose instructions are right have ways that go on. -/
theorem way_of {w : NWorld} {t regs : Int} {l : List NInstr} (h : allI (fun k i => instrB w t regs l.length k i) 0 l = true) : WayOk l := by
  have h := allI_mem.1 h
  have key : ∀ (k : Nat) (i : NInstr), l[k]? = some i → instrB w t regs l.length k i = true := by
    intro k i hi
    have hk : k < l.length := by
      rcases Nat.lt_or_ge k l.length with h | h
      · exact h
      · rw [List.getElem?_eq_none h] at hi; simp at hi
    have := h k hk
    rw [Nat.zero_add] at this
    rw [List.getElem?_eq_getElem hk] at hi
    simp only [Option.some.injEq] at hi
    rw [hi] at this; exact this
  refine ⟨fun k i hi h5 => ?_, fun i hi => ?_⟩
  · have := key k i hi
    unfold instrB at this
    simp only [Bool.and_eq_true] at this
    have := this.2.2
    unfold jumpsB at this
    rwa [if_pos h5] at this
  · have := key _ i hi
    unfold instrB at this
    simp only [Bool.and_eq_true, beq_iff_eq, decide_eq_decide] at this
    have hk : l.length - 1 < l.length := by
      rcases Nat.lt_or_ge (l.length - 1) l.length with h | h
      · exact h
      · rw [List.getElem?_eq_none h] at hi; simp at hi
    have h28 := this.1.1.1.2.2 (by omega)
    unfold silentB; simp; omega
theorem okThread : rThread.Ok Tryz.prog cx 109 := by
  refine walkR (tb := ⟨pt [(177, rIn ()), (178, rRegisters), (179, rOperands), (180, rAdvances)], ht []⟩) mixed tysOk fn109 (fun a => a.2.2.instrs.length + 5) (by simp [rThread]) (by simp [rThread, Tryz.f109]) ?_
  rintro ⟨w, t, ⟨regs, l⟩⟩ hl vs ha
  simp [rThread] at hl ha ⊢
  obtain ⟨h0, h1, h2⟩ := ha
  have hb : threadB w t ⟨regs, l⟩ = (decide (0 ≤ regs ∧ regs ≤ 32) && decide (l ≠ []) && allI (fun k i => instrB w t regs l.length k i) 0 l && landsAll l) := rfl
  by_cases c1 : regs < 0
  · have hr : threadB w t ⟨regs, l⟩ = false := by rw [hb, decide_eq_false (by omega)]; rfl
    simp [Tryz.f109, dl109, h0, h1, h2, c1, hr]
  by_cases c2 : 32 < regs
  · have hr : threadB w t ⟨regs, l⟩ = false := by rw [hb, decide_eq_false (by omega)]; rfl
    simp [Tryz.f109, dl109, h0, h1, h2, c1, c2, hr]
  by_cases c3 : l = []
  · subst c3
    have hr : threadB w t ⟨regs, []⟩ = false := by rw [hb]; simp
    simp [Tryz.f109, dl109, h0, h1, h2, c1, c2, hr]
  rw [decide_eq_true (by omega), decide_eq_true c3, Bool.true_and, Bool.true_and] at hb
  generalize threadB w t ⟨regs, l⟩ = B at *
  have hlen : 0 < l.length := by cases l with | nil => exact absurd rfl c3 | cons => simp
  simp [Tryz.f109, dl109, h0, h1, h2, c1, c2, c3]
  refine W_each l.length (by omega) (fun k vs h => Ok1 2 h ∧ h.get 0 = some ⟨6, 0, 0, true, false, [w.t]⟩ ∧ h.get 1 = some ⟨2, 0, 0, true, false, [NThreadCode.t ⟨regs, l⟩]⟩ ∧ TI.look vs 3 = some (.ptr 0 0 0 0) ∧ TI.look vs 5 = some (.ptr 1 0 0 0) ∧ TI.look vs 1 = some (.int .i64 t) ∧ TI.look vs 26 = some (sl (l.map NInstr.t)) ∧ TI.look vs 27 = some (.int .i64 l.length) ∧ TI.look vs 28 = some (.int .i64 k) ∧
    allI (fun k i => instrB w t regs l.length k i) k (l.drop k) = allI (fun k i => instrB w t regs l.length k i) 0 l) ?_ ?_ (by omega) ?_
  · rintro k vs h hlt hadd ⟨ok, b0, b1, h3, h5, h1, h26, h27, h28, hm⟩
    have hk : (k : Int) < l.length := by omega
    have hlk : l[k]? = some l[k] := List.getElem?_eq_getElem hlt
    rw [allI_drop _ _ hlt] at hm
    have hn0 := ok.ne (b := 0) (by omega)
    have hn1 := ok.ne (b := 1) (by omega)
    generalize l[k] = ins at *
    have hfalse : instrB w t regs l.length k ins = false → B = false := by
      intro h; rw [h, Bool.false_and] at hm; rw [hb, ← hm]; rfl
    have hI : instrB w t regs l.length k ins = (decide (1 ≤ ins.op ∧ ins.op ≤ 28) && (decide (ins.op = 28) == decide (k + 1 = l.length)) && siteB w t ins && ((regsOf ins).all fun r => inII r regs) && (objectsB w ins && jumpsB l.length ins)) := rfl
    have hsub := binop_sub (a := l.length) (b := 1) (by omega) (by omega)
    obtain ⟨op, a, b, c, n, site⟩ := ins
    simp only at hI
    have ok8 := ok.cons ⟨6, 0, 1, true, false, [NInstr.t ⟨op, a, b, c, n, site⟩]⟩
    by_cases d1 : op < 1
    · have hr := hfalse (by rw [hI, decide_eq_false (by omega)]; rfl)
      simp [b0, b1, h3, h5, h1, h26, h27, h28, hk, hlk, hn0, hn1, ok.low, d1, hr, ok.hp]
    by_cases d2 : 28 < op
    · have hr := hfalse (by rw [hI, decide_eq_false (by omega)]; rfl)
      simp [b0, b1, h3, h5, h1, h26, h27, h28, hk, hlk, hn0, hn1, ok.low, d1, d2, hr, ok.hp]
    rw [decide_eq_true (by omega), Bool.true_and] at hI
    have hkl : (decide ((k : Int) = (l.length : Int) - 1)) = decide (k + 1 = l.length) := by rw [decide_eq_decide]; omega
    by_cases d3 : (decide (op = 28) == decide (k + 1 = l.length)) = true
    rotate_left
    · have d3' : (decide (op = 28) == decide (k + 1 = l.length)) = false := by simpa using d3
      have hr := hfalse (by rw [hI, d3']; rfl)
      by_cases e1 : op = 28
      · have e2 : decide (k + 1 = l.length) = false := by cases e3 : decide (k + 1 = l.length) with | false => rfl | true => rw [e3, decide_eq_true e1] at d3'; simp at d3'
        rw [e2] at hkl
        subst e1
        simp [b0, b1, h3, h5, h1, h26, h27, h28, hk, hlk, hn0, hn1, ok.low, hsub, hkl, hr, ok.hp]
      · have e2 : decide (k + 1 = l.length) = true := by cases e3 : decide (k + 1 = l.length) with | true => rfl | false => rw [e3, decide_eq_false e1] at d3'; simp at d3'
        rw [e2] at hkl
        simp [b0, b1, h3, h5, h1, h26, h27, h28, hk, hlk, hn0, hn1, ok.low, d1, d2, hsub, e1, hkl, hr, ok.hp]
    rw [d3, Bool.true_and] at hI
    -- the site
    cases hs : siteB w t ⟨op, a, b, c, n, site⟩ with
    | false =>
      have hr := hfalse (by rw [hI, hs]; rfl)
      by_cases e1 : op = 28
      · have e2 : decide (k + 1 = l.length) = true := by cases e3 : decide (k + 1 = l.length) with | true => rfl | false => rw [e3, decide_eq_true e1] at d3; simp at d3
        rw [e2] at hkl
        subst e1
        have hsite : ¬ site = -1 := by simpa [siteB] using hs
        simp [b0, b1, h3, h5, h1, h26, h27, h28, hk, hlk, hn0, hn1, ok.low, hsub, hkl, hsite, hr, ok.hp]
      · have e2 : decide (k + 1 = l.length) = false := by cases e3 : decide (k + 1 = l.length) with | false => rfl | true => rw [e3, decide_eq_false e1] at d3; simp at d3
        rw [e2] at hkl
        have hs' : siteAt w t site = false := by simpa [siteB, e1] using hs
        cases hin : inI site w.sites.length with
        | false => simp [b0, b1, h3, h5, h1, h26, h27, h28, hk, hlk, hn0, hn1, ok.low, d1, d2, hsub, e1, hkl, cWithin, hin, hr, ok.hp]
        | true =>
          obtain ⟨x, hx, hy⟩ := atI_in hin
          unfold siteAt at hs'
          rw [hy] at hs'
          have hxt : ¬ x.thread = t := by simpa using hs'
          simp [b0, b1, h3, h5, h1, h26, h27, h28, hk, hlk, hn0, hn1, ok.low, d1, d2, hsub, e1, hkl, cWithin, hin, toIdxI_of (inI_iff.1 hin).1, hx, hxt, hr, ok.hp]
    | true =>
      rw [hs, Bool.true_and] at hI
      -- behind the site: registers, operands
      have hrl := regs_len ⟨op, a, b, c, n, site⟩
      have rest : (op = 28 ∧ site = -1 ∧ decide ((k : Int) = (l.length : Int) - 1) = true) ∨ (¬ op = 28 ∧ decide ((k : Int) = (l.length : Int) - 1) = false ∧ ∃ x : NSite, inI site w.sites.length = true ∧ w.sites[site.toNat]? = some x ∧ x.thread = t) := by
        by_cases e1 : op = 28
        · have e2 : decide (k + 1 = l.length) = true := by cases e3 : decide (k + 1 = l.length) with | true => rfl | false => rw [e3, decide_eq_true e1] at d3; simp at d3
          exact .inl ⟨e1, by subst e1; simpa [siteB] using hs, by rw [hkl, e2]⟩
        · have e2 : decide (k + 1 = l.length) = false := by cases e3 : decide (k + 1 = l.length) with | false => rfl | true => rw [e3, decide_eq_false e1] at d3; simp at d3
          have hs' : siteAt w t site = true := by simpa [siteB, e1] using hs
          cases hin : inI site w.sites.length with
          | false => unfold siteAt at hs'; rw [atI_out hin] at hs'; simp at hs'
          | true =>
            obtain ⟨x, hx, hy⟩ := atI_in hin
            unfold siteAt at hs'
            rw [hy] at hs'
            exact .inr ⟨e1, by rw [hkl, e2], x, rfl, hx, by simpa using hs'⟩
      obtain ⟨I, hII⟩ : ∃ I : NInstr, I = ⟨op, a, b, c, n, site⟩ := ⟨_, rfl⟩
      rcases rest with ⟨e1, e2, e3⟩ | ⟨e1, e3, x, hin, hx, hxt⟩
      · subst e1 e2
        simp [b0, b1, h3, h5, h1, h26, h27, h28, hk, hlk, hn0, hn1, ok.low, hsub, e3, cRegisters]
        simp only [← hII] at hrl hI ok8 hlk hm hfalse ⊢
        obtain ⟨RA, hRA⟩ : ∃ RA, RA = (regsOf I).all fun r => inII r regs := ⟨_, rfl⟩
        rw [← hRA] at hI
        refine W_each (regsOf I).length (by omega) (fun j vs h' => Ok1 2 h' ∧ h.size < h'.size ∧ h'.get 0 = some ⟨6, 0, 0, true, false, [w.t]⟩ ∧ h'.get 1 = some ⟨2, 0, 0, true, false, [NThreadCode.t ⟨regs, l⟩]⟩ ∧ h'.get h.size = some ⟨6, 0, 1, true, false, [I.t]⟩ ∧ TI.look vs 3 = some (.ptr 0 0 0 0) ∧ TI.look vs 5 = some (.ptr 1 0 0 0) ∧ TI.look vs 1 = some (.int .i64 t) ∧ TI.look vs 26 = some (sl (l.map NInstr.t)) ∧ TI.look vs 27 = some (.int .i64 l.length) ∧ TI.look vs 28 = some (.int .i64 k) ∧
          TI.look vs 8 = some (.ptr h.size 0 0 0) ∧ TI.look vs 78 = some (sl ((regsOf I).map (T.int .i64))) ∧ TI.look vs 79 = some (.int .i64 (regsOf I).length) ∧ TI.look vs 80 = some (.int .i64 j) ∧ (((regsOf I).drop j).all fun r => inII r regs) = RA) ?_ ?_ (by omega) ?_
        · rintro j vs h' hj hadd' ⟨ok', hs', b0, b1, b8, h3, h5, h1, h26, h27, h28, h8, h78, h79, h80, hR⟩
          have hjl : (j : Int) < (regsOf I).length := by omega
          have hjx : (regsOf I)[j]? = some (regsOf I)[j] := List.getElem?_eq_getElem hj
          rw [List.drop_eq_getElem_cons hj, List.all_cons] at hR
          generalize (regsOf I)[j] = r at *
          cases hw : inII r regs with
          | false =>
            rw [hw, Bool.false_and] at hR
            have hr := hfalse (by rw [hI, ← hR]; rfl)
            simp [b0, b1, b8, h3, h5, h1, h26, h27, h28, h8, h78, h79, h80, hjl, hjx, cWithin, hw, hr, ok'.hp]
          | true =>
            rw [hw, Bool.true_and] at hR
            simp [b0, b1, b8, h3, h5, h1, h26, h27, h28, h8, h78, h79, h80, hjl, hjx, cWithin, hw, hadd']
            exact ⟨ok', hs', by simpa using hR⟩
        · rintro vs h' ⟨ok', hs', b0, b1, b8, h3, h5, h1, h26, h27, h28, h8, h78, h79, h80, hR⟩
          have hRt : RA = true := by rw [← hR, List.drop_length]; rfl
          rw [hRt, Bool.true_and] at hI
          cases ho : (objectsB w I && jumpsB l.length I) with
          | false =>
            have hr := hfalse (by rw [hI, ho])
            simp [b0, b1, b8, h3, h5, h1, h26, h27, h28, h8, h78, h79, h80, cOperands, ho, hr, ok'.hp]
          | true =>
            rw [hI, ho, Bool.true_and] at hm
            simp [b0, b1, b8, h3, h5, h1, h26, h27, h28, h8, h78, h79, h80, cOperands, ho, hadd]
            exact ⟨ok', hm⟩
        · simp [b0, b1, hn0, hn1, h3, h5, h1, h26, h27, h28]
          exact ⟨ok8, hRA.symm⟩
      · subst hxt
        simp [b0, b1, h3, h5, h1, h26, h27, h28, hk, hlk, hn0, hn1, ok.low, d1, d2, hsub, e1, e3, cWithin, hin, toIdxI_of (inI_iff.1 hin).1, hx, cRegisters]
        simp only [← hII] at hrl hI ok8 hlk hm hfalse ⊢
        obtain ⟨RA, hRA⟩ : ∃ RA, RA = (regsOf I).all fun r => inII r regs := ⟨_, rfl⟩
        rw [← hRA] at hI
        refine W_each (regsOf I).length (by omega) (fun j vs h' => Ok1 2 h' ∧ h.size < h'.size ∧ h'.get 0 = some ⟨6, 0, 0, true, false, [w.t]⟩ ∧ h'.get 1 = some ⟨2, 0, 0, true, false, [NThreadCode.t ⟨regs, l⟩]⟩ ∧ h'.get h.size = some ⟨6, 0, 1, true, false, [I.t]⟩ ∧ TI.look vs 3 = some (.ptr 0 0 0 0) ∧ TI.look vs 5 = some (.ptr 1 0 0 0) ∧ TI.look vs 1 = some (.int .i64 x.thread) ∧ TI.look vs 26 = some (sl (l.map NInstr.t)) ∧ TI.look vs 27 = some (.int .i64 l.length) ∧ TI.look vs 28 = some (.int .i64 k) ∧
          TI.look vs 8 = some (.ptr h.size 0 0 0) ∧ TI.look vs 78 = some (sl ((regsOf I).map (T.int .i64))) ∧ TI.look vs 79 = some (.int .i64 (regsOf I).length) ∧ TI.look vs 80 = some (.int .i64 j) ∧ (((regsOf I).drop j).all fun r => inII r regs) = RA) ?_ ?_ (by omega) ?_
        · rintro j vs h' hj hadd' ⟨ok', hs', b0, b1, b8, h3, h5, h1, h26, h27, h28, h8, h78, h79, h80, hR⟩
          have hjl : (j : Int) < (regsOf I).length := by omega
          have hjx : (regsOf I)[j]? = some (regsOf I)[j] := List.getElem?_eq_getElem hj
          rw [List.drop_eq_getElem_cons hj, List.all_cons] at hR
          generalize (regsOf I)[j] = r at *
          cases hw : inII r regs with
          | false =>
            rw [hw, Bool.false_and] at hR
            have hr := hfalse (by rw [hI, ← hR]; rfl)
            simp [b0, b1, b8, h3, h5, h1, h26, h27, h28, h8, h78, h79, h80, hjl, hjx, cWithin, hw, hr, ok'.hp]
          | true =>
            rw [hw, Bool.true_and] at hR
            simp [b0, b1, b8, h3, h5, h1, h26, h27, h28, h8, h78, h79, h80, hjl, hjx, cWithin, hw, hadd']
            exact ⟨ok', hs', by simpa using hR⟩
        · rintro vs h' ⟨ok', hs', b0, b1, b8, h3, h5, h1, h26, h27, h28, h8, h78, h79, h80, hR⟩
          have hRt : RA = true := by rw [← hR, List.drop_length]; rfl
          rw [hRt, Bool.true_and] at hI
          cases ho : (objectsB w I && jumpsB l.length I) with
          | false =>
            have hr := hfalse (by rw [hI, ho])
            simp [b0, b1, b8, h3, h5, h1, h26, h27, h28, h8, h78, h79, h80, cOperands, ho, hr, ok'.hp]
          | true =>
            rw [hI, ho, Bool.true_and] at hm
            simp [b0, b1, b8, h3, h5, h1, h26, h27, h28, h8, h78, h79, h80, cOperands, ho, hadd]
            exact ⟨ok', hm⟩
        · simp [b0, b1, hn0, hn1, h3, h5, h1, h26, h27, h28]
          exact ⟨ok8, hRA.symm⟩
  · rintro vs h ⟨ok, b0, b1, h3, h5, h1, h26, h27, h28, hm⟩
    rw [List.drop_length, allI] at hm
    rw [← hm, Bool.true_and] at hb
    have hadv := fun {tb : Tabs} (ht : tb.p 180 = some rAdvances) => cAdvances ht l hl (way_of hm.symm)
    simp [b0, b1, h3, h5, h26, h27, h28, hadv, hb, ok.hp]
  · simp [h1]
    exact ⟨by simp, by simp, by simp⟩
end Go.Proofs.YtddpfdjgppabhaaGreatDoor
