/- Walks: compile.advances. -/
import Derived.Test.YtddpfdjgppabhaaGreatDoorW06f
import Derived.Test.YtddpfdjgppabhaaGreatDoorS06b
set_option linter.unusedSimpArgs false
set_option linter.unusedVariables false
namespace Go.Proofs.YtddpfdjgppabhaaGreatDoor
open Go Go.TI
set_option linter.unusedVariables false
set_option linter.unusedSimpArgs false
set_option maxRecDepth 100000
attribute [-simp] List.map_take List.map_drop List.map_append
def rAdvances : PRule := ⟨List NInstr, fun a => [sl (a.map NInstr.t)], fun a => a.length ≤ 4398046511104 ∧ WayOk a, fun a => .bool (landsAll a), fun a b h => by simp at h; rw [slm_inj (fun _ _ => NInstr.inj) h]⟩
theorem okAdvances : rAdvances.Ok Tryz.prog cx 180 := by
  refine walkR (tb := ⟨pt [(219, rSilent), (220, rFollowing)], ht []⟩) mixed tysOk fn180 (fun a => a.length + 2) (by simp [rAdvances]) (by simp [rAdvances, Tryz.f180]) ?_
  rintro (l : List NInstr) hl vs ha
  simp [rAdvances] at hl ha ⊢
  obtain ⟨hl, way⟩ := hl
  have h46 : l.length ≤ 70368744177664 := by omega
  simp [Tryz.f180, dl180, ha, h46]
  refine W_each l.length (by omega) (fun s vs h => Ok1 2 h ∧ TI.look vs 0 = some (sl (l.map NInstr.t)) ∧ TI.look vs 3 = some (.arr 0 0 0 l.length false) ∧ TI.look vs 4 = some (.arr 1 0 0 l.length false) ∧ TI.look vs 14 = some (.int .i64 l.length) ∧ TI.look vs 15 = some (.int .i64 s) ∧
    ∃ G : List Bool, G.length = l.length ∧ (∃ ver, h.get 0 = some ⟨1, 0, ver, true, false, G.map T.bool⟩) ∧ (∃ ver, h.get 1 = some ⟨1, 0, ver, true, false, G.map T.bool⟩) ∧ (∀ x : Nat, G[x]? = some true → lands l (G.count true + 1) x = true) ∧ allI (fun k _ => lands l (l.length + 1) k) s (l.drop s) = landsAll l) ?_ ?_ (by omega) ?_
  · rintro s vs h hs hadd ⟨ok, h0, h3, h4, h14, h15, G, hG, ⟨ver0, g0⟩, ⟨ver1, g1⟩, hland, hall⟩
    have hs' : (s : Int) < l.length := by omega
    have hcnt : ∀ L : List Bool, L.count true ≤ L.length := fun L => List.count_le_length ..
    simp [h14, h15, hs']
    refine W_up l.length (fun m vs h' => Ok1 2 h' ∧ TI.look vs 0 = some (sl (l.map NInstr.t)) ∧ TI.look vs 3 = some (.arr 0 0 0 l.length false) ∧ TI.look vs 4 = some (.arr 1 0 0 l.length false) ∧ TI.look vs 14 = some (.int .i64 l.length) ∧ TI.look vs 15 = some (.int .i64 s) ∧ TI.look vs 5 = some (.int .i64 s) ∧ TI.look vs 6 = some (.int .i64 (itN l s m)) ∧
      h'.get 0 = some ⟨1, 0, ver0, true, false, G.map T.bool⟩ ∧ (∃ ver, h'.get 1 = some ⟨1, 0, ver, true, false, (mkN l s G m).map T.bool⟩) ∧ itN l s m < l.length ∧ (mkN l s G m).count true = G.count true + m ∧ (∀ i, i < m → silentAt l (itN l s i) = true ∧ G[itN l s i]? = some false ∧ itN l s i < l.length) ∧ (∀ i j, i < j → j < m → itN l s i ≠ itN l s j)) ?_ (k := 0) (by omega) (by omega) ?_
    · rintro m vs h' hm ⟨ok, h0, h3, h4, h14, h15, h5, h6, g0, ⟨ver1, g1⟩, hp, hc, hw, hinj⟩
      generalize hpe : itN l s m = p at *
      have hpl : l[p]? = some l[p] := List.getElem?_eq_getElem hp
      generalize l[p] = ins at *
      obtain ⟨gb, hgb⟩ : ∃ gb, G[p]? = some gb := ⟨G[p]'(by omega), List.getElem?_eq_getElem (by omega)⟩
      obtain ⟨sb, hsb⟩ : ∃ sb, (mkN l s G m)[p]? = some sb := ⟨(mkN l s G m)[p]'(by rw [mk_len]; omega), List.getElem?_eq_getElem (by rw [mk_len]; omega)⟩
      have hgm : (G.map T.bool)[p]? = some (.bool gb) := by rw [List.getElem?_map, hgb]; rfl
      have hsm : ((mkN l s G m).map T.bool)[p]? = some (.bool sb) := by rw [List.getElem?_map, hsb]; rfl
      have hsil : silentAt l p = silentB ins.op := by unfold silentAt; rw [hpl]
      -- the way ends here
      have done : silentB ins.op = false ∨ gb = true → ∀ i, i ≤ m → lands l (G.count true + 1 + (m - i)) (itN l s i) = true := by
        intro hor i hi
        obtain ⟨d, hd⟩ : ∃ d, m - i = d := ⟨_, rfl⟩
        rw [hd]
        induction d generalizing i with
        | zero =>
          have : i = m := by omega
          subst this
          rw [hpe]
          rcases hor with h | rfl
          · exact lands_stop hp (by rw [hsil]; exact h) _
          · exact hland p hgb
        | succ d ih =>
          rw [show G.count true + 1 + (d + 1) = (G.count true + 1 + d) + 1 by omega, lands_step way (hw i (by omega)).1]
          exact ih (i + 1) (by omega) (by omega)
      have hidx : toIdxI (p : Int) = some p := by simp
      have hpd : decide (p < l.length) = true := decide_eq_true hp
      by_cases hgo : silentB ins.op = true ∧ gb = false
      · obtain ⟨q1, rfl⟩ := hgo
        have hfo := (goes_step way hpl (by exact q1))
        have hat : atI l (p : Int) = some ins := by rw [atI_nat]; exact hpl
        have hin : inI (p : Int) l.length = true := by rw [inI_iff]; simp; exact hp
        have hfw := fun {tb : Tabs} (ht : tb.p 220 = some rFollowing) => cFollowing ht l p ins hat hin (by omega)
        rw [hfo.1] at hfw
        cases sb with
        | true =>
          have hr : landsAll l = false := by
            rcases (mk_get l s G m p (by omega)).1 hsb with h | ⟨j, hj, hjp⟩
            · rw [hgb] at h; simp at h
            · have := lands_ring way (fun i hi => (hw i hi).1) hj (by rw [hpe, hjp]) (l.length + 1) 0 (by omega)
              refine allI_false (i := s) hs ?_
              rw [Nat.zero_add]; exact this
          simp [h0, h3, h4, h5, h6, h14, h15, g0, g1, hpd, hpl, hgm, hsm, hidx, q1, cIsSilent, hr, ok.hp]
        | false =>
          have hmk : mkN l s G (m + 1) = (mkN l s G m).set p true := by rw [mkN, hpe]
          have hit : itN l s (m + 1) = stepN l p := by rw [itN, hpe]
          have hc1 : (mkN l s G (m + 1)).count true = G.count true + (m + 1) := by rw [hmk, count_set_new hsb, hc]; omega
          have hm1 : m + 1 ≤ l.length := by have := hcnt (mkN l s G (m + 1)); rw [mk_len, hG, hc1] at this; omega
          have gp := putB_get g1 ⟨1, 0, ver1 + 1, true, false, ((mkN l s G m).map T.bool).set p (.bool true)⟩
          have gp0 := gp 0
          have gp1 := gp 1
          rw [if_neg (by omega)] at gp0
          rw [if_pos rfl] at gp1
          rw [g0] at gp0
          have okp := ok.put 1 ⟨1, 0, ver1 + 1, true, false, ((mkN l s G m).map T.bool).set p (.bool true)⟩
          simp [h0, h3, h4, h5, h6, h14, h15, g0, g1, hpd, hpl, hgm, hsm, hidx, q1, cIsSilent, hfw]
          refine ⟨m + 1, by omega, hm1, okp, by rw [hit], gp0, ⟨ver1 + 1, by rw [gp1, hmk, List.map_set]⟩, by rw [hit]; exact hfo.2, hc1, fun i hi => ?_, fun i j hij hj => ?_⟩
          · rcases Nat.lt_or_ge i m with h | h
            · exact hw i h
            · have : i = m := by omega
              subst this
              rw [hpe]; exact ⟨by rw [hsil]; exact q1, hgb, hp⟩
          · rcases Nat.lt_or_ge j m with h | h
            · exact hinj i j hij h
            · have : j = m := by omega
              subst this
              rw [hpe]
              intro he
              have := (mk_get l s G j p (by omega)).2 (.inr ⟨i, hij, he⟩)
              rw [hsb] at this; simp at this
      · have hor : silentB ins.op = false ∨ (silentB ins.op = true ∧ gb = true) := by
          cases q1 : silentB ins.op with
          | false => exact .inl rfl
          | true => cases gb with
            | true => exact .inr ⟨rfl, rfl⟩
            | false => exact absurd ⟨q1, rfl⟩ hgo
        have hdone := done (by rcases hor with h | h; exact .inl h; exact .inr h.2)
        have hmn : m ≤ l.length := hm
        have hGm : silentB ins.op = true → ((mkN l s G m).map T.bool)[p]? = some (.bool true) := by
          intro hq
          rcases hor with h | h
          · rw [h] at hq; simp at hq
          · rw [List.getElem?_map, (mk_get l s G m p (by omega)).2 (.inl (by rw [hgb, h.2]))]; rfl
        rcases hor with q1 | ⟨q1, rfl⟩
        all_goals
          simp [h0, h3, h4, h5, h6, h14, h15, g0, g1, hpd, hpl, hgm, hidx, q1, cIsSilent]
          refine W_each m (by omega) (fun i vs h'' => Ok1 2 h'' ∧ TI.look vs 0 = some (sl (l.map NInstr.t)) ∧ TI.look vs 3 = some (.arr 0 0 0 l.length false) ∧ TI.look vs 4 = some (.arr 1 0 0 l.length false) ∧ TI.look vs 14 = some (.int .i64 l.length) ∧ TI.look vs 15 = some (.int .i64 s) ∧ TI.look vs 6 = some (.int .i64 (itN l s i)) ∧
            (∃ ver, h''.get 0 = some ⟨1, 0, ver, true, false, (mkN l s G i).map T.bool⟩) ∧ h''.get 1 = some ⟨1, 0, ver1, true, false, (mkN l s G m).map T.bool⟩) ?_ ?_ (by omega) ?_
          · rintro i vs h'' hi hadd' ⟨ok, h0, h3, h4, h14, h15, h6, ⟨ver, g0⟩, g1⟩
            obtain ⟨w1, w2, w3⟩ := hw i hi
            generalize hqe : itN l s i = q at *
            have hql : l[q]? = some l[q] := List.getElem?_eq_getElem w3
            generalize l[q] = ins' at *
            have w3d : decide (q < l.length) = true := decide_eq_true w3
            have hsq : silentB ins'.op = true := by unfold silentAt at w1; rw [hql] at w1; exact w1
            have hfo := goes_step way hql hsq
            have hat : atI l (q : Int) = some ins' := by rw [atI_nat]; exact hql
            have hin : inI (q : Int) l.length = true := by rw [inI_iff]; simp; exact w3
            have hfw := fun {tb : Tabs} (ht : tb.p 220 = some rFollowing) => cFollowing ht l q ins' hat hin (by omega)
            rw [hfo.1] at hfw
            have hmq : (mkN l s G i)[q]? = some false := by
              obtain ⟨b, hb⟩ : ∃ b, (mkN l s G i)[q]? = some b := ⟨(mkN l s G i)[q]'(by rw [mk_len]; omega), List.getElem?_eq_getElem (by rw [mk_len]; omega)⟩
              cases b with
              | false => exact hb
              | true =>
                rcases (mk_get l s G i q (by omega)).1 hb with h | ⟨j, hj, hjp⟩
                · rw [w2] at h; simp at h
                · exact absurd (by rw [hjp, hqe]) (hinj j i hj hi)
            have hmqT : ((mkN l s G i).map T.bool)[q]? = some (.bool false) := by rw [List.getElem?_map, hmq]; rfl
            have hmk : mkN l s G (i + 1) = (mkN l s G i).set q true := by rw [mkN, hqe]
            have hit : itN l s (i + 1) = stepN l q := by rw [itN, hqe]
            have gp := putB_get g0 ⟨1, 0, ver + 1, true, false, ((mkN l s G i).map T.bool).set q (.bool true)⟩
            have gp0 := gp 0
            have gp1 := gp 1
            rw [if_neg (by omega), g1] at gp1
            rw [if_pos rfl] at gp0
            have okp := ok.put 0 ⟨1, 0, ver + 1, true, false, ((mkN l s G i).map T.bool).set q (.bool true)⟩
            simp [h0, h3, h4, h6, h14, h15, g0, g1, w3d, hql, hmqT, hsq, cIsSilent, hfw]
            refine ⟨okp, by rw [hit], ⟨ver + 1, ?_⟩, gp1⟩
            rw [gp0, hmk, List.map_set]
          · rintro vs h'' ⟨ok, h0, h3, h4, h14, h15, h6, ⟨ver, g0⟩, g1⟩
            rw [hpe] at h6
            have hfin : ∀ x : Nat, (mkN l s G m)[x]? = some true → lands l ((mkN l s G m).count true + 1) x = true := by
              intro x hx
              have hxl : x < G.length := by
                rcases Nat.lt_or_ge x G.length with h | h
                · exact h
                · rw [List.getElem?_eq_none (by rw [mk_len]; exact h)] at hx; simp at hx
              rw [hc]
              rcases (mk_get l s G m x hxl).1 hx with h | ⟨j, hj, rfl⟩
              · exact lands_le (by omega) (hland x h)
              · exact lands_le (by omega) (hdone j (by omega))
            have hs0 : lands l (l.length + 1) s = true := by
              have h1 := hdone 0 (by omega)
              have h2 := hcnt (mkN l s G m)
              rw [mk_len, hG, hc] at h2
              exact lands_le (by omega) h1
            rw [allI_drop _ _ hs, hs0, Bool.true_and] at hall
            simp [h0, h3, h4, h6, h14, h15, g0, g1, hpd, hpl, q1, hGm, cIsSilent, hadd]
            exact ⟨ok, mkN l s G m, by rw [mk_len, hG], rfl, hfin, hall⟩
          · simp [h0, h3, h4, h5, h14, h15, itN, mkN]
            exact ⟨ok, ⟨_, g0⟩, g1⟩
    · simp [h0, h3, h4, h14, h15, itN, mkN]
      exact ⟨ok, g0, ⟨_, g1⟩, hs⟩
  · rintro vs h ⟨ok, h0, h3, h4, h14, h15, G, hG, g0, g1, hland, hall⟩
    rw [List.drop_length, allI] at hall
    simp [h14, h15, ← hall, ok.hp]
  · simp [ha]
    refine ⟨⟨by simp, by simp, by simp⟩, List.replicate l.length false, by simp, by simp, ?_, rfl⟩
    intro x hx
    rw [List.getElem?_replicate] at hx
    split at hx <;> simp at hx
theorem cAdvances {tb : Tabs} (ht : tb.p 180 = some rAdvances) (l : List NInstr) (hl : l.length ≤ 4398046511104) (hw : WayOk l) : rl Tryz.prog cx tb 180 [sl (l.map NInstr.t)] = some (.bool (landsAll l)) := rl_of ht okAdvances l ⟨hl, hw⟩
end Go.Proofs.YtddpfdjgppabhaaGreatDoor
