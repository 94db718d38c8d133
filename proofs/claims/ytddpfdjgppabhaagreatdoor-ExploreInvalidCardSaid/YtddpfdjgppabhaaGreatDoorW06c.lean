/- Walks: lists of names, names, sites. -/
import Derived.Test.YtddpfdjgppabhaaGreatDoorW06b
set_option linter.unusedSimpArgs false
set_option linter.unusedVariables false
namespace Go.Proofs.YtddpfdjgppabhaaGreatDoor
open Go Go.TI
set_option linter.unusedVariables false
set_option linter.unusedSimpArgs false
set_option maxRecDepth 100000
attribute [-simp] List.map_take List.map_drop List.map_append
/-! At -/
def atN : List (List Nat) → List Nat → Nat → Int
  | [], _, _ => -1
  | x :: l, s, i => if x = s then (i : Int) else atN l s (i + 1)
theorem atN_neg : ∀ (l : List (List Nat)) (s : List Nat) (i : Nat), (0 ≤ atN l s i) = (s ∈ l) := by
  intro l
  induction l with
  | nil => intro s i; simp [atN]
  | cons x l ih =>
    intro s i
    rw [atN]
    by_cases hx : x = s
    · subst hx; simp
    · rw [if_neg hx, ih]; simp; intro h; exact absurd h.symm hx
def rAt : PRule := ⟨List (List Nat) × List Nat, fun a => [sl (a.1.map T.str), .str a.2], fun a => a.1.length ≤ 1099511627776, fun a => .int .i64 (atN a.1 a.2 0), fun a b h => by
  simp at h; rw [slm_inj (by simp) h.1, h.2]⟩
theorem okAt : rAt.Ok Tryz.prog cx 33 := by
  refine walkR (tb := ⟨pt [], ht []⟩) mixed tysOk fn33 (fun a => a.1.length + 1) (by simp [rAt]) (by simp [rAt, Tryz.f33]) ?_
  rintro ⟨l, s⟩ hl vs ha
  simp [rAt] at hl ha ⊢
  obtain ⟨h0, h1⟩ := ha
  simp [Tryz.f33, h0, h1, dl33]
  refine W_each l.length (by omega) (fun k vs h => h = hE ∧ TI.look vs 0 = some (sl (l.map T.str)) ∧ TI.look vs 1 = some (.str s) ∧ TI.look vs 5 = some (.int .i64 k) ∧ atN (l.drop k) s k = atN l s 0) ?_ ?_ (by omega) (by simp [h0, h1])
  · rintro k vs h hlt hadd ⟨rfl, h0, h1, h5, hm⟩
    rw [List.drop_eq_getElem_cons hlt, atN] at hm
    by_cases he : l[k] = s
    · rw [if_pos he] at hm
      simp [h0, h1, h5, hlt, he, ← hm]
    · rw [if_neg he] at hm
      simp [h0, h1, h5, hlt, he, hadd, hm]
  · rintro vs h ⟨rfl, h0, h1, h5, hm⟩
    simp [atN] at hm
    simp [h0, h1, h5, ← hm]
theorem cAt {tb : Tabs} (ht : tb.p 33 = some rAt) (l : List (List Nat)) (s : List Nat) (hl : l.length ≤ 1099511627776) : rl Tryz.prog cx tb 33 [sl (l.map T.str), .str s] = some (.int .i64 (atN l s 0)) := rl_of ht okAt (l, s) hl
/-! keywords -/
def rKeywords : PRule := ⟨Unit, fun a => [], fun a => True, fun a => sl (keywordsN.map T.str), fun a b h => rfl⟩
theorem okKeywords : rKeywords.Ok Tryz.prog cx 106 := by
  refine walkR (tb := ⟨pt [], ht []⟩) mixed tysOk fn106 (fun a => 1) (by simp [rKeywords]) (by simp [rKeywords, Tryz.f106]) ?_
  rintro _ _ vs ha
  simp [rKeywords] at ha ⊢
  simp [Tryz.f106, dl106, items_arr]
  rfl
theorem cKeywords {tb : Tabs} (ht : tb.p 106 = some rKeywords) : rl Tryz.prog cx tb 106 [] = some (sl (keywordsN.map T.str)) := rl_of ht okKeywords () trivial
theorem kw_len : keywordsN.length = 22 := rfl
def rKeyword : PRule := ⟨List Nat, fun a => [.str a], fun a => True, fun a => .bool (keywordN a), fun a b h => by simp at h; rw [h]⟩
theorem okKeyword01 : rKeyword.Ok Tryz.prog cx 65 := by
  refine walkR (tb := ⟨pt [(106, rKeywords)], ht []⟩) mixed tysOk fn65 (fun a => 23) (by simp [rKeyword]) (by simp [rKeyword, Tryz.f65]) ?_
  rintro (s : List Nat) _ vs ha
  simp [rKeyword] at ha ⊢
  simp [Tryz.f65, ha, dl65, cKeywords]
  refine W_each keywordsN.length (by rw [kw_len]; omega) (fun k vs h => h = hE ∧ TI.look vs 0 = some (.str s) ∧ TI.look vs 3 = some (sl (keywordsN.map T.str)) ∧ TI.look vs 4 = some (.int .i64 k) ∧ (s ∈ keywordsN.drop k ↔ s ∈ keywordsN)) ?_ ?_ (by rw [kw_len]; omega) (by simp [ha])
  · rintro k vs h hlt hadd ⟨rfl, h0, h3, h4, hm⟩
    have hd := List.drop_eq_getElem_cons hlt
    rw [hd] at hm
    by_cases he : keywordsN[k] = s
    · simp [h0, h3, h4, hlt, he, keywordN]
      rw [← hm, he]; simp
    · simp [h0, h3, h4, hlt, he, hadd]
      refine ⟨fun h => hm.1 (List.mem_cons_of_mem _ h), fun h => ?_⟩
      rcases List.mem_cons.1 (hm.2 h) with h | h
      · exact absurd h.symm he
      · exact h
  · rintro vs h ⟨rfl, h0, h3, h4, hm⟩
    simp [h0, h3, h4, keywordN]
    simpa using hm
theorem cKeyword01 {tb : Tabs} (ht : tb.p 65 = some rKeyword) (s : List Nat) : rl Tryz.prog cx tb 65 [.str s] = some (.bool (keywordN s)) := rl_of ht okKeyword01 s trivial
theorem gl_kw : gl1 = keywordsN.map T.str := rfl
theorem okKeyword : rKeyword.Ok Tryz.prog cx 203 := by
  refine walkR (tb := ⟨pt [], ht []⟩) mixed tysOk fn203 (fun a => 23) (by simp [rKeyword]) (by simp [rKeyword, Tryz.f203]) ?_
  rintro (s : List Nat) _ vs ha
  simp only [rKeyword, keywordN] at ha ⊢
  have hgl := cxgl1
  rw [gl_kw] at hgl
  have hN := kw_len
  generalize keywordsN = kw at *
  simp at ha ⊢
  have ht22 : takeN 22 (kw.map T.str) = some (kw.map T.str) := by rw [takeN_eq, if_pos (by rw [List.length_map, hN]; omega), List.take_of_length_le (by rw [List.length_map, hN]; omega)]
  simp [Tryz.f203, ha, dl203, hgl, ht22]
  refine W_each kw.length (by rw [hN]; omega) (fun k vs h => h = hE ∧ TI.look vs 0 = some (.str s) ∧ TI.look vs 5 = some (.agg (kw.map T.str)) ∧ TI.look vs 6 = some (.int .i64 k) ∧ (s ∈ kw.drop k ↔ s ∈ kw)) ?_ ?_ (by rw [hN]; omega) (by simp [ha])
  · rintro k vs h hlt hadd ⟨rfl, h0, h3, h4, hm⟩
    have hd := List.drop_eq_getElem_cons hlt
    rw [hd] at hm
    have h22 : k < 22 := by rw [← hN]; exact hlt
    have hdn : dropN k (kw.map T.str) = some (T.str kw[k] :: (kw.drop (k + 1)).map T.str) := by rw [dropN_eq, if_pos (by rw [List.length_map]; omega), ← List.map_drop, hd, List.map_cons]
    have hk22 : (k : Int) < 22 := by omega
    by_cases he : kw[k] = s
    · simp [h0, h3, h4, h22, hdn, he, hk22]
      rw [← hm, he]; simp
    · have he' : ¬ s = kw[k] := fun h => he h.symm
      simp [h0, h3, h4, h22, hdn, he, he', hadd, hk22]
      refine ⟨fun h => hm.1 (List.mem_cons_of_mem _ h), fun h => ?_⟩
      rcases List.mem_cons.1 (hm.2 h) with h | h
      · exact absurd h.symm he
      · exact h
  · rintro vs h ⟨rfl, h0, h3, h4, hm⟩
    rw [hN] at h4
    simp [h0, h3, h4]
    simpa using hm
theorem cKeyword {tb : Tabs} (ht : tb.p 203 = some rKeyword) (s : List Nat) : rl Tryz.prog cx tb 203 [.str s] = some (.bool (keywordN s)) := rl_of ht okKeyword s trivial
/-! names -/
def rName : PRule := ⟨List Nat, fun a => [.str a], fun a => True, fun a => .bool (nameN a), fun a b h => by simp at h; rw [h]⟩
theorem okName01 : rName.Ok Tryz.prog cx 32 := by
  refine walkR (tb := ⟨pt [(65, rKeyword), (64, rLetter), (66, rInner)], ht []⟩) mixed tysOk fn32 (fun a => 13) (by simp [rName]) (by simp [rName, Tryz.f32]) ?_
  rintro (s : List Nat) _ vs ha
  simp [rName] at ha ⊢
  cases s with
  | nil => simp [Tryz.f32, ha, dl32, nameN]
  | cons c s =>
    have h1' : ¬ (s.length : Int) + 1 < 1 := by omega
    by_cases h12 : s.length + 1 ≤ 12
    · have h12' : ¬ (12 : Int) < (s.length : Int) + 1 := by omega
      cases hc : letterN c with
      | false => simp [Tryz.f32, ha, dl32, h1', h12', hc, cLetter, nameN, headN]
      | true =>
        cases hk : keywordN (c :: s) with
        | true => simp [Tryz.f32, ha, dl32, h1', h12', hc, hk, cLetter, cKeyword01, nameN, headN]
        | false =>
          have hn : nameN (c :: s) = (c :: s).all innerN := by simp [nameN, hk, headN, hc]; intro _ _; omega
          obtain ⟨B, hB⟩ : ∃ B, B = (c :: s).all innerN := ⟨_, rfl⟩
          rw [hn, ← hB]
          simp [Tryz.f32, ha, dl32, h1', h12', hc, hk, cLetter, cKeyword01]
          refine W_each (c :: s).length (by simp; omega) (fun k vs h => h = hE ∧ TI.look vs 0 = some (.str (c :: s)) ∧ TI.look vs 3 = some (.int .i64 k) ∧ ((c :: s).drop k).all innerN = B) ?_ ?_ (by simp; omega) (by rw [hB]; simp [ha])
          · rintro k vs h hlt hadd ⟨rfl, h0, h3, hm⟩
            rw [List.drop_eq_getElem_cons hlt, List.all_cons] at hm
            generalize hG : (c :: s) = S at *
            cases hi : innerN S[k] with
            | true => rw [hi, Bool.true_and] at hm; simp [h0, h3, hlt, hadd, cInner, hi, hm]
            | false => rw [hi, Bool.false_and] at hm; simp [h0, h3, hlt, hadd, cInner, hi, ← hm]
          · rintro vs h ⟨rfl, h0, h3, hm⟩
            generalize hG : (c :: s) = S at *
            rw [List.drop_length] at hm
            simp [h0, h3, ← hm]
    · have h12' : (12 : Int) < (s.length : Int) + 1 := by omega
      have hn : nameN (c :: s) = false := by simp [nameN]; omega
      simp [Tryz.f32, ha, dl32, h1', h12', hn]
theorem cName01 {tb : Tabs} (ht : tb.p 32 = some rName) (s : List Nat) : rl Tryz.prog cx tb 32 [.str s] = some (.bool (nameN s)) := rl_of ht okName01 s trivial
/-! sites -/
def rSites : PRule := ⟨NWorld, fun a => [a.t], fun a => a.sites.length ≤ 1099511627776, fun a => .bool (sitesOk a.threads.length 0 0 a.sites), fun a b h => by simp at h; rw [NWorld.inj h]⟩
theorem okSites : rSites.Ok Tryz.prog cx 176 := by
  refine walkR (tb := ⟨pt [], ht []⟩) mixed tysOk fn176 (fun a => a.sites.length + 1) (by simp [rSites]) (by simp [rSites, Tryz.f176]) ?_
  rintro (w : NWorld) hl vs ha
  simp [rSites] at hl ha ⊢
  simp [Tryz.f176, dl176, ha]
  refine W_each w.sites.length (by omega) (fun k vs h => Ok1 1 h ∧ h.get 0 = some ⟨6, 0, 0, true, false, [w.t]⟩ ∧ TI.look vs 1 = some (.ptr 0 0 0 0) ∧ TI.look vs 8 = some (sl (w.sites.map NSite.t)) ∧ TI.look vs 9 = some (.int .i64 w.sites.length) ∧ TI.look vs 10 = some (.int .i64 k) ∧
    ∃ t x : Int, TI.look vs 3 = some (.int .i64 t) ∧ TI.look vs 4 = some (.int .i64 x) ∧ 0 ≤ x ∧ x ≤ k ∧ sitesOk w.threads.length t x (w.sites.drop k) = sitesOk w.threads.length 0 0 w.sites) ?_ ?_ (by omega) ?_
  · rintro k vs h hlt hadd ⟨ok, g0, h1, h8, h9, h10, t, x, h3, h4, x0, xk, hm⟩
    rw [List.drop_eq_getElem_cons hlt, sitesOk] at hm
    have hx := binop_add (a := x) (b := 1) (by omega) (by omega)
    have hx1 := binop_add (a := 0) (b := 1) (by omega) (by omega)
    have hk1 : (k : Int) < w.sites.length := by omega
    by_cases q1 : (w.sites[k]).thread < t
    · rw [if_pos (.inl q1)] at hm
      simp [g0, h1, h8, h9, h10, h3, h4, hlt, hk1, hadd, ok.ne, ok.low, q1, ok.hp, ← hm]
    · by_cases q2 : (w.threads.length : Int) ≤ (w.sites[k]).thread
      · rw [if_pos (.inr q2)] at hm
        simp [g0, h1, h8, h9, h10, h3, h4, hlt, hk1, hadd, ok.ne, ok.low, q1, q2, ok.hp, ← hm]
      · rw [if_neg (by omega)] at hm
        by_cases q3 : t < (w.sites[k]).thread
        · rw [if_pos q3] at hm
          by_cases q4 : (w.sites[k]).stmt = 0
          · rw [if_pos q4] at hm
            simp [g0, h1, h8, h9, h10, h3, h4, hlt, hk1, hadd, ok.ne, ok.low, q1, q2, q3, q4, hx1]
            exact ⟨ok.cons _, ⟨by omega, hm⟩⟩
          · rw [if_neg q4] at hm
            simp [g0, h1, h8, h9, h10, h3, h4, hlt, hk1, hadd, ok.ne, ok.low, q1, q2, q3, q4, ok.hp, ← hm]
        · rw [if_neg q3] at hm
          by_cases q4 : (w.sites[k]).stmt = x
          · rw [if_pos q4] at hm
            simp [g0, h1, h8, h9, h10, h3, h4, hlt, hk1, hadd, ok.ne, ok.low, q1, q2, q3, q4, hx]
            exact ⟨ok.cons _, ⟨by omega, by omega, hm⟩⟩
          · rw [if_neg q4] at hm
            simp [g0, h1, h8, h9, h10, h3, h4, hlt, hk1, hadd, ok.ne, ok.low, q1, q2, q3, q4, ok.hp, ← hm]
  · rintro vs h ⟨ok, g0, h1, h8, h9, h10, t, x, h3, h4, x0, xk, hm⟩
    simp [sitesOk] at hm
    simp [g0, h1, h8, h9, h10, h3, h4, ok.hp, hm]
  · simp [ha]
    exact ⟨by simp, by simp, by simp⟩
theorem cSites {tb : Tabs} (ht : tb.p 176 = some rSites) (w : NWorld) (hl : w.sites.length ≤ 1099511627776) : rl Tryz.prog cx tb 176 [w.t] = some (.bool (sitesOk w.threads.length 0 0 w.sites)) := rl_of ht okSites w hl
end Go.Proofs.YtddpfdjgppabhaaGreatDoor
