/- Walks: token.IsName, ways, cells. -/
import Derived.Test.YtddpfdjgppabhaaGreatDoorW06c
set_option linter.unusedSimpArgs false
set_option linter.unusedVariables false
namespace Go.Proofs.YtddpfdjgppabhaaGreatDoor
open Go Go.TI
set_option linter.unusedVariables false
set_option linter.unusedSimpArgs false
set_option maxRecDepth 100000
attribute [-simp] List.map_take List.map_drop List.map_append
/-! token.IsName: it ranges over characters -/
theorem okName : rName.Ok Tryz.prog cx 214 := by
  refine walkR (tb := ⟨pt [(203, rKeyword)], ht []⟩) mixed tysOk fn214 (fun a => 13) (by simp [rName]) (by simp [rName, Tryz.f214]) ?_
  rintro (s : List Nat) _ vs ha
  simp [rName] at ha ⊢
  by_cases h1 : s.length < 1
  · have : s = [] := by cases s <;> simp at h1; rfl
    subst this
    simp [Tryz.f214, ha, dl214, nameN]
  · by_cases h12 : s.length ≤ 12
    · have h12' : ¬ (12 : Int) < (s.length : Int) := by omega
      have h1' : ¬ (s.length : Int) < 1 := by omega
      have h1'' : s ≠ [] := by rintro rfl; simp at h1
      cases hk : keywordN s with
      | true => simp [Tryz.f214, ha, dl214, h12', h1', h1'', hk, cKeyword, nameN]
      | false =>
        obtain ⟨B, hB⟩ : ∃ B, B = (headN s && s.all innerN) := ⟨_, rfl⟩
        have hn : nameN s = B := by rw [hB]; simp [nameN, hk, h12]; rw [show decide (1 ≤ s.length) = true by simp; omega]; simp
        rw [hn]
        simp [Tryz.f214, ha, dl214, h12', h1', h1'', hk, cKeyword, oH_rangeS 9 ty9 _ cxty9 rfl]
        refine W_each s.length (by omega) (fun k vs h => Ok1 1 h ∧ TI.look vs 18 = some (.iter 0) ∧ (∃ ver, h.get 0 = some ⟨1, 0, ver, true, true, [.str s, .int .i64 (.ofNat k)]⟩) ∧ (k ≠ 0 → headN s = true) ∧ (s.drop k).all innerN = s.all innerN) ?_ ?_ (by omega) ?_
        · rintro k vs h hlt hadd ⟨ok, h18, ⟨ver, g0⟩, hh, hm⟩
          have hsk : s[k]? = some s[k] := List.getElem?_eq_getElem hlt
          rw [List.drop_eq_getElem_cons hlt, List.all_cons] at hm
          have hhead : k = 0 → headN s = letterN s[k] := by rintro rfl; cases s with | nil => simp at hlt | cons c r => rfl
          generalize s[k] = c at *
          have kpos : ¬ k = 0 → (0 < k) = True := by intro h; simp; omega
          by_cases h128 : c < 128
          · have hns := nsK_lo g0 hsk h128
            have gput := putB_get g0 ⟨1, 0, ver + 1, true, true, [.str s, .int .i64 (.ofNat (k + 1))]⟩ 0
            rw [if_pos rfl] at gput
            have okp := ok.put 0 ⟨1, 0, ver + 1, true, true, [.str s, .int .i64 (.ofNat (k + 1))]⟩
            generalize putB h 0 ⟨1, 0, ver + 1, true, true, [.str s, .int .i64 (.ofNat (k + 1))]⟩ = h' at *
            rcases (by omega : c < 48 ∨ (48 ≤ c ∧ c ≤ 57) ∨ (57 < c ∧ c < 65) ∨ (65 ≤ c ∧ c ≤ 90) ∨ (90 < c ∧ c < 95) ∨ c = 95 ∨ c = 96 ∨ (97 ≤ c ∧ c ≤ 122) ∨ 122 < c) with hc | hc | hc | hc | hc | hc | hc | hc | hc
            · have hi : innerN c = false := by simp [innerN, letterN, digitN]; omega
              rw [hi, Bool.false_and] at hm
              have : B = false := by rw [hB, ← hm]; simp
              subst this
              by_cases hk0 : k = 0
              · simp [h18, g0, hns, hk0, okp.hp, show ((97 : Int) ≤ (c : Int)) = False by simp only [eq_iff_iff, iff_true, iff_false]; omega, show ((c : Int) ≤ 122) = True by simp only [eq_iff_iff, iff_true, iff_false]; omega, show ((65 : Int) ≤ (c : Int)) = False by simp only [eq_iff_iff, iff_true, iff_false]; omega, show ((c : Int) ≤ 90) = True by simp only [eq_iff_iff, iff_true, iff_false]; omega, show ((c : Int) = 95) = False by simp only [eq_iff_iff, iff_true, iff_false]; omega, show ((48 : Int) ≤ (c : Int)) = False by simp only [eq_iff_iff, iff_true, iff_false]; omega, show ((c : Int) ≤ 57) = True by simp only [eq_iff_iff, iff_true, iff_false]; omega]
              · simp [h18, g0, hns, kpos hk0, okp.hp, show ((97 : Int) ≤ (c : Int)) = False by simp only [eq_iff_iff, iff_true, iff_false]; omega, show ((c : Int) ≤ 122) = True by simp only [eq_iff_iff, iff_true, iff_false]; omega, show ((65 : Int) ≤ (c : Int)) = False by simp only [eq_iff_iff, iff_true, iff_false]; omega, show ((c : Int) ≤ 90) = True by simp only [eq_iff_iff, iff_true, iff_false]; omega, show ((c : Int) = 95) = False by simp only [eq_iff_iff, iff_true, iff_false]; omega, show ((48 : Int) ≤ (c : Int)) = False by simp only [eq_iff_iff, iff_true, iff_false]; omega, show ((c : Int) ≤ 57) = True by simp only [eq_iff_iff, iff_true, iff_false]; omega]
            · have hl : letterN c = false := by simp [letterN]; omega
              have hi : innerN c = true := by simp [innerN, letterN, digitN]; omega
              rw [hi, Bool.true_and] at hm
              by_cases hk0 : k = 0
              · have : B = false := by rw [hB, hhead hk0, hl]; rfl
                subst this
                simp [h18, g0, hns, hk0, okp.hp, show ((97 : Int) ≤ (c : Int)) = False by simp only [eq_iff_iff, iff_true, iff_false]; omega, show ((c : Int) ≤ 122) = True by simp only [eq_iff_iff, iff_true, iff_false]; omega, show ((65 : Int) ≤ (c : Int)) = False by simp only [eq_iff_iff, iff_true, iff_false]; omega, show ((c : Int) ≤ 90) = True by simp only [eq_iff_iff, iff_true, iff_false]; omega, show ((c : Int) = 95) = False by simp only [eq_iff_iff, iff_true, iff_false]; omega, show ((48 : Int) ≤ (c : Int)) = True by simp only [eq_iff_iff, iff_true, iff_false]; omega, show ((c : Int) ≤ 57) = True by simp only [eq_iff_iff, iff_true, iff_false]; omega]
              · simp [h18, g0, hns, kpos hk0, show ((97 : Int) ≤ (c : Int)) = False by simp only [eq_iff_iff, iff_true, iff_false]; omega, show ((c : Int) ≤ 122) = True by simp only [eq_iff_iff, iff_true, iff_false]; omega, show ((65 : Int) ≤ (c : Int)) = False by simp only [eq_iff_iff, iff_true, iff_false]; omega, show ((c : Int) ≤ 90) = True by simp only [eq_iff_iff, iff_true, iff_false]; omega, show ((c : Int) = 95) = False by simp only [eq_iff_iff, iff_true, iff_false]; omega, show ((48 : Int) ≤ (c : Int)) = True by simp only [eq_iff_iff, iff_true, iff_false]; omega, show ((c : Int) ≤ 57) = True by simp only [eq_iff_iff, iff_true, iff_false]; omega]
                exact ⟨okp, ⟨_, gput⟩, hh hk0, by simpa using hm⟩
            · have hi : innerN c = false := by simp [innerN, letterN, digitN]; omega
              rw [hi, Bool.false_and] at hm
              have : B = false := by rw [hB, ← hm]; simp
              subst this
              by_cases hk0 : k = 0
              · simp [h18, g0, hns, hk0, okp.hp, show ((97 : Int) ≤ (c : Int)) = False by simp only [eq_iff_iff, iff_true, iff_false]; omega, show ((c : Int) ≤ 122) = True by simp only [eq_iff_iff, iff_true, iff_false]; omega, show ((65 : Int) ≤ (c : Int)) = False by simp only [eq_iff_iff, iff_true, iff_false]; omega, show ((c : Int) ≤ 90) = True by simp only [eq_iff_iff, iff_true, iff_false]; omega, show ((c : Int) = 95) = False by simp only [eq_iff_iff, iff_true, iff_false]; omega, show ((48 : Int) ≤ (c : Int)) = True by simp only [eq_iff_iff, iff_true, iff_false]; omega, show ((c : Int) ≤ 57) = False by simp only [eq_iff_iff, iff_true, iff_false]; omega]
              · simp [h18, g0, hns, kpos hk0, okp.hp, show ((97 : Int) ≤ (c : Int)) = False by simp only [eq_iff_iff, iff_true, iff_false]; omega, show ((c : Int) ≤ 122) = True by simp only [eq_iff_iff, iff_true, iff_false]; omega, show ((65 : Int) ≤ (c : Int)) = False by simp only [eq_iff_iff, iff_true, iff_false]; omega, show ((c : Int) ≤ 90) = True by simp only [eq_iff_iff, iff_true, iff_false]; omega, show ((c : Int) = 95) = False by simp only [eq_iff_iff, iff_true, iff_false]; omega, show ((48 : Int) ≤ (c : Int)) = True by simp only [eq_iff_iff, iff_true, iff_false]; omega, show ((c : Int) ≤ 57) = False by simp only [eq_iff_iff, iff_true, iff_false]; omega]
            · have hl : letterN c = true := by simp [letterN]; omega
              have hi : innerN c = true := by simp [innerN, letterN, digitN]; omega
              rw [hi, Bool.true_and] at hm
              simp [h18, g0, hns, show ((97 : Int) ≤ (c : Int)) = False by simp only [eq_iff_iff, iff_true, iff_false]; omega, show ((c : Int) ≤ 122) = True by simp only [eq_iff_iff, iff_true, iff_false]; omega, show ((65 : Int) ≤ (c : Int)) = True by simp only [eq_iff_iff, iff_true, iff_false]; omega, show ((c : Int) ≤ 90) = True by simp only [eq_iff_iff, iff_true, iff_false]; omega, show ((c : Int) = 95) = False by simp only [eq_iff_iff, iff_true, iff_false]; omega, show ((48 : Int) ≤ (c : Int)) = True by simp only [eq_iff_iff, iff_true, iff_false]; omega, show ((c : Int) ≤ 57) = False by simp only [eq_iff_iff, iff_true, iff_false]; omega]
              refine ⟨okp, ⟨_, gput⟩, ?_, by simpa using hm⟩
              by_cases hk0 : k = 0
              · rw [hhead hk0, hl]
              · exact hh hk0
            · have hi : innerN c = false := by simp [innerN, letterN, digitN]; omega
              rw [hi, Bool.false_and] at hm
              have : B = false := by rw [hB, ← hm]; simp
              subst this
              by_cases hk0 : k = 0
              · simp [h18, g0, hns, hk0, okp.hp, show ((97 : Int) ≤ (c : Int)) = False by simp only [eq_iff_iff, iff_true, iff_false]; omega, show ((c : Int) ≤ 122) = True by simp only [eq_iff_iff, iff_true, iff_false]; omega, show ((65 : Int) ≤ (c : Int)) = True by simp only [eq_iff_iff, iff_true, iff_false]; omega, show ((c : Int) ≤ 90) = False by simp only [eq_iff_iff, iff_true, iff_false]; omega, show ((c : Int) = 95) = False by simp only [eq_iff_iff, iff_true, iff_false]; omega, show ((48 : Int) ≤ (c : Int)) = True by simp only [eq_iff_iff, iff_true, iff_false]; omega, show ((c : Int) ≤ 57) = False by simp only [eq_iff_iff, iff_true, iff_false]; omega]
              · simp [h18, g0, hns, kpos hk0, okp.hp, show ((97 : Int) ≤ (c : Int)) = False by simp only [eq_iff_iff, iff_true, iff_false]; omega, show ((c : Int) ≤ 122) = True by simp only [eq_iff_iff, iff_true, iff_false]; omega, show ((65 : Int) ≤ (c : Int)) = True by simp only [eq_iff_iff, iff_true, iff_false]; omega, show ((c : Int) ≤ 90) = False by simp only [eq_iff_iff, iff_true, iff_false]; omega, show ((c : Int) = 95) = False by simp only [eq_iff_iff, iff_true, iff_false]; omega, show ((48 : Int) ≤ (c : Int)) = True by simp only [eq_iff_iff, iff_true, iff_false]; omega, show ((c : Int) ≤ 57) = False by simp only [eq_iff_iff, iff_true, iff_false]; omega]
            · have hl : letterN c = false := by simp [letterN]; omega
              have hi : innerN c = true := by simp [innerN, letterN, digitN]; omega
              rw [hi, Bool.true_and] at hm
              by_cases hk0 : k = 0
              · have : B = false := by rw [hB, hhead hk0, hl]; rfl
                subst this
                simp [h18, g0, hns, hk0, okp.hp, show ((97 : Int) ≤ (c : Int)) = False by simp only [eq_iff_iff, iff_true, iff_false]; omega, show ((c : Int) ≤ 122) = True by simp only [eq_iff_iff, iff_true, iff_false]; omega, show ((65 : Int) ≤ (c : Int)) = True by simp only [eq_iff_iff, iff_true, iff_false]; omega, show ((c : Int) ≤ 90) = False by simp only [eq_iff_iff, iff_true, iff_false]; omega, show ((c : Int) = 95) = True by simp only [eq_iff_iff, iff_true, iff_false]; omega, show ((48 : Int) ≤ (c : Int)) = True by simp only [eq_iff_iff, iff_true, iff_false]; omega, show ((c : Int) ≤ 57) = False by simp only [eq_iff_iff, iff_true, iff_false]; omega]
              · simp [h18, g0, hns, kpos hk0, show ((97 : Int) ≤ (c : Int)) = False by simp only [eq_iff_iff, iff_true, iff_false]; omega, show ((c : Int) ≤ 122) = True by simp only [eq_iff_iff, iff_true, iff_false]; omega, show ((65 : Int) ≤ (c : Int)) = True by simp only [eq_iff_iff, iff_true, iff_false]; omega, show ((c : Int) ≤ 90) = False by simp only [eq_iff_iff, iff_true, iff_false]; omega, show ((c : Int) = 95) = True by simp only [eq_iff_iff, iff_true, iff_false]; omega, show ((48 : Int) ≤ (c : Int)) = True by simp only [eq_iff_iff, iff_true, iff_false]; omega, show ((c : Int) ≤ 57) = False by simp only [eq_iff_iff, iff_true, iff_false]; omega]
                exact ⟨okp, ⟨_, gput⟩, hh hk0, by simpa using hm⟩
            · have hi : innerN c = false := by simp [innerN, letterN, digitN]; omega
              rw [hi, Bool.false_and] at hm
              have : B = false := by rw [hB, ← hm]; simp
              subst this
              by_cases hk0 : k = 0
              · simp [h18, g0, hns, hk0, okp.hp, show ((97 : Int) ≤ (c : Int)) = False by simp only [eq_iff_iff, iff_true, iff_false]; omega, show ((c : Int) ≤ 122) = True by simp only [eq_iff_iff, iff_true, iff_false]; omega, show ((65 : Int) ≤ (c : Int)) = True by simp only [eq_iff_iff, iff_true, iff_false]; omega, show ((c : Int) ≤ 90) = False by simp only [eq_iff_iff, iff_true, iff_false]; omega, show ((c : Int) = 95) = False by simp only [eq_iff_iff, iff_true, iff_false]; omega, show ((48 : Int) ≤ (c : Int)) = True by simp only [eq_iff_iff, iff_true, iff_false]; omega, show ((c : Int) ≤ 57) = False by simp only [eq_iff_iff, iff_true, iff_false]; omega]
              · simp [h18, g0, hns, kpos hk0, okp.hp, show ((97 : Int) ≤ (c : Int)) = False by simp only [eq_iff_iff, iff_true, iff_false]; omega, show ((c : Int) ≤ 122) = True by simp only [eq_iff_iff, iff_true, iff_false]; omega, show ((65 : Int) ≤ (c : Int)) = True by simp only [eq_iff_iff, iff_true, iff_false]; omega, show ((c : Int) ≤ 90) = False by simp only [eq_iff_iff, iff_true, iff_false]; omega, show ((c : Int) = 95) = False by simp only [eq_iff_iff, iff_true, iff_false]; omega, show ((48 : Int) ≤ (c : Int)) = True by simp only [eq_iff_iff, iff_true, iff_false]; omega, show ((c : Int) ≤ 57) = False by simp only [eq_iff_iff, iff_true, iff_false]; omega]
            · have hl : letterN c = true := by simp [letterN]; omega
              have hi : innerN c = true := by simp [innerN, letterN, digitN]; omega
              rw [hi, Bool.true_and] at hm
              simp [h18, g0, hns, show ((97 : Int) ≤ (c : Int)) = True by simp only [eq_iff_iff, iff_true, iff_false]; omega, show ((c : Int) ≤ 122) = True by simp only [eq_iff_iff, iff_true, iff_false]; omega, show ((65 : Int) ≤ (c : Int)) = True by simp only [eq_iff_iff, iff_true, iff_false]; omega, show ((c : Int) ≤ 90) = False by simp only [eq_iff_iff, iff_true, iff_false]; omega, show ((c : Int) = 95) = False by simp only [eq_iff_iff, iff_true, iff_false]; omega, show ((48 : Int) ≤ (c : Int)) = True by simp only [eq_iff_iff, iff_true, iff_false]; omega, show ((c : Int) ≤ 57) = False by simp only [eq_iff_iff, iff_true, iff_false]; omega]
              refine ⟨okp, ⟨_, gput⟩, ?_, by simpa using hm⟩
              by_cases hk0 : k = 0
              · rw [hhead hk0, hl]
              · exact hh hk0
            · have hi : innerN c = false := by simp [innerN, letterN, digitN]; omega
              rw [hi, Bool.false_and] at hm
              have : B = false := by rw [hB, ← hm]; simp
              subst this
              by_cases hk0 : k = 0
              · simp [h18, g0, hns, hk0, okp.hp, show ((97 : Int) ≤ (c : Int)) = True by simp only [eq_iff_iff, iff_true, iff_false]; omega, show ((c : Int) ≤ 122) = False by simp only [eq_iff_iff, iff_true, iff_false]; omega, show ((65 : Int) ≤ (c : Int)) = True by simp only [eq_iff_iff, iff_true, iff_false]; omega, show ((c : Int) ≤ 90) = False by simp only [eq_iff_iff, iff_true, iff_false]; omega, show ((c : Int) = 95) = False by simp only [eq_iff_iff, iff_true, iff_false]; omega, show ((48 : Int) ≤ (c : Int)) = True by simp only [eq_iff_iff, iff_true, iff_false]; omega, show ((c : Int) ≤ 57) = False by simp only [eq_iff_iff, iff_true, iff_false]; omega]
              · simp [h18, g0, hns, kpos hk0, okp.hp, show ((97 : Int) ≤ (c : Int)) = True by simp only [eq_iff_iff, iff_true, iff_false]; omega, show ((c : Int) ≤ 122) = False by simp only [eq_iff_iff, iff_true, iff_false]; omega, show ((65 : Int) ≤ (c : Int)) = True by simp only [eq_iff_iff, iff_true, iff_false]; omega, show ((c : Int) ≤ 90) = False by simp only [eq_iff_iff, iff_true, iff_false]; omega, show ((c : Int) = 95) = False by simp only [eq_iff_iff, iff_true, iff_false]; omega, show ((48 : Int) ≤ (c : Int)) = True by simp only [eq_iff_iff, iff_true, iff_false]; omega, show ((c : Int) ≤ 57) = False by simp only [eq_iff_iff, iff_true, iff_false]; omega]
          · obtain ⟨r, wd, hr, hns⟩ := nsK_hi g0 hsk h128
            have okp := ok.put 0 ⟨1, 0, ver + 1, true, true, [.str s, .int .i64 (.ofNat (k + wd))]⟩
            generalize putB h 0 ⟨1, 0, ver + 1, true, true, [.str s, .int .i64 (.ofNat (k + wd))]⟩ = h' at *
            have hi : innerN c = false := by simp [innerN, letterN, digitN]; omega
            rw [hi, Bool.false_and] at hm
            have : B = false := by rw [hB, ← hm]; simp
            subst this
            by_cases hk0 : k = 0
            · simp [h18, g0, hns, hk0, okp.hp, show ((97 : Int) ≤ (r : Int)) = True by simp only [eq_iff_iff, iff_true, iff_false]; omega, show ((r : Int) ≤ 122) = False by simp only [eq_iff_iff, iff_true, iff_false]; omega, show ((65 : Int) ≤ (r : Int)) = True by simp only [eq_iff_iff, iff_true, iff_false]; omega, show ((r : Int) ≤ 90) = False by simp only [eq_iff_iff, iff_true, iff_false]; omega, show ((r : Int) = 95) = False by simp only [eq_iff_iff, iff_true, iff_false]; omega, show ((48 : Int) ≤ (r : Int)) = True by simp only [eq_iff_iff, iff_true, iff_false]; omega, show ((r : Int) ≤ 57) = False by simp only [eq_iff_iff, iff_true, iff_false]; omega]
            · simp [h18, g0, hns, kpos hk0, okp.hp, show ((97 : Int) ≤ (r : Int)) = True by simp only [eq_iff_iff, iff_true, iff_false]; omega, show ((r : Int) ≤ 122) = False by simp only [eq_iff_iff, iff_true, iff_false]; omega, show ((65 : Int) ≤ (r : Int)) = True by simp only [eq_iff_iff, iff_true, iff_false]; omega, show ((r : Int) ≤ 90) = False by simp only [eq_iff_iff, iff_true, iff_false]; omega, show ((r : Int) = 95) = False by simp only [eq_iff_iff, iff_true, iff_false]; omega, show ((48 : Int) ≤ (r : Int)) = True by simp only [eq_iff_iff, iff_true, iff_false]; omega, show ((r : Int) ≤ 57) = False by simp only [eq_iff_iff, iff_true, iff_false]; omega]
        · rintro vs h ⟨ok, h18, ⟨ver, g0⟩, hh, hm⟩
          have hns := nsK_end g0 (Nat.le_refl _)
          have : B = true := by rw [hB, hh (by omega), ← hm]; simp
          simp [h18, g0, hns, ok.hp, this]
        · simp
          exact ⟨by simp, by simp, by simp⟩
    · have h12' : (12 : Int) < (s.length : Int) := by omega
      have h1' : ¬ (s.length : Int) < 1 := by omega
      have hn : nameN s = false := by simp [nameN]; omega
      simp [Tryz.f214, ha, dl214, h12', h1', hn]
theorem cName {tb : Tabs} (ht : tb.p 214 = some rName) (s : List Nat) : rl Tryz.prog cx tb 214 [.str s] = some (.bool (nameN s)) := rl_of ht okName s trivial
/-! ways -/
def rLands : PRule := ⟨List NInstr × Int, fun a => [sl (a.1.map NInstr.t), .int .i64 a.2], fun a => a.1.length ≤ 140737488355328, fun a => .bool (lands a.1 (a.1.length + 1) a.2), fun a b h => by
  simp at h; rw [slm_inj (fun _ _ => NInstr.inj) h.1, h.2]⟩
theorem okLands : rLands.Ok Tryz.prog cx 35 := by
  refine walkR (tb := ⟨pt [(68, rSilent)], ht []⟩) mixed tysOk fn35 (fun a => a.1.length + 2) (by simp [rLands]) (by simp [rLands, Tryz.f35]) ?_
  rintro ⟨l, at0⟩ hl vs ha
  simp [rLands] at hl ha ⊢
  obtain ⟨h0, h1⟩ := ha
  simp [Tryz.f35, h0, h1, dl35]
  refine W_each (l.length + 1) (by omega) (fun k vs h => h = hE ∧ TI.look vs 0 = some (sl (l.map NInstr.t)) ∧ TI.look vs 5 = some (.int .i64 k) ∧ ∃ p : Int, TI.look vs 1 = some (.int .i64 p) ∧ lands l (l.length + 1 - k) p = lands l (l.length + 1) at0) ?_ ?_ (by omega) ?_
  · rintro k vs h hlt hadd ⟨rfl, h0, h5, p, h1, hm⟩
    have hk : (k : Int) ≤ l.length := by omega
    rw [show l.length + 1 - k = (l.length - k) + 1 by omega, lands] at hm
    by_cases q1 : p < 0
    · have : atI l p = none := by unfold atI; rw [if_neg (by omega)]
      rw [this] at hm
      simp [h0, h1, h5, hk, q1, ← hm]
    · by_cases q2 : (l.length : Int) ≤ p
      · have : atI l p = none := by unfold atI; rw [if_pos (by omega)]; simp; omega
        rw [this] at hm
        simp [h0, h1, h5, hk, q1, q2, ← hm]
      · have hin : inI p l.length = true := by rw [inI_iff]; omega
        obtain ⟨i, hi1, hi2⟩ := atI_in hin
        rw [hi2] at hm
        simp only at hm
        have hidx := toIdxI_of (show 0 ≤ p by omega)
        have hadd1 := binop_add (a := p) (b := 1) (by omega) (by omega)
        cases hs : silentB i.op with
        | false =>
          rw [hs, if_neg (by simp)] at hm
          simp [h0, h1, h5, hk, q1, q2, hidx, hi1, hs, cSilent06, ← hm]
        | true =>
          rw [hs, if_pos rfl] at hm
          cases q3 : decide (i.op = 5) with
          | true =>
            rw [decide_eq_true_eq] at q3
            rw [goesTo, if_pos q3] at hm
            have q3' : decide (i.op = 5) = true := by simpa using q3
            simp [h0, h1, h5, hk, q1, q2, hidx, hi1, hs, cSilent06, q3', hadd]
            exact hm
          | false =>
            have q3' : decide (i.op = 5) = false := q3
            rw [decide_eq_false_iff_not] at q3
            rw [goesTo, if_neg q3] at hm
            simp [h0, h1, h5, hk, q1, q2, hidx, hi1, hs, cSilent06, q3', hadd, hadd1]
            exact hm
  · rintro vs h ⟨rfl, h0, h5, p, h1, hm⟩
    rw [Nat.sub_self, lands] at hm
    have hk : ¬ ((l.length : Int) + 1 ≤ l.length) := by omega
    simp [h0, h1, h5, hk, ← hm]
  · simp [h0, h1]
theorem cLands {tb : Tabs} (ht : tb.p 35 = some rLands) (l : List NInstr) (k : Int) (hl : l.length ≤ 140737488355328) : rl Tryz.prog cx tb 35 [sl (l.map NInstr.t), .int .i64 k] = some (.bool (lands l (l.length + 1) k)) := rl_of ht okLands (l, k) hl
def rFollowing : PRule := ⟨List NInstr × Int, fun a => [sl (a.1.map NInstr.t), .int .i64 a.2], fun a => inI a.2 a.1.length = true ∧ a.1.length ≤ 140737488355328, fun a => .int .i64 (match atI a.1 a.2 with | some i => goesTo i a.2 | none => 0), fun a b h => by
  simp at h; rw [slm_inj (fun _ _ => NInstr.inj) h.1, h.2]⟩
theorem okFollowing : rFollowing.Ok Tryz.prog cx 220 := by
  refine walkR (tb := ⟨pt [], ht []⟩) mixed tysOk fn220 (fun a => 1) (by simp [rFollowing]) (by simp [rFollowing, Tryz.f220]) ?_
  rintro ⟨l, p⟩ hl vs ha
  simp [rFollowing] at hl ha ⊢
  obtain ⟨h0, h1⟩ := ha
  obtain ⟨hin, hl⟩ := hl
  obtain ⟨i, hi1, hi2⟩ := atI_in hin
  have hin' := inI_iff.1 hin
  have hidx := toIdxI_of (show 0 ≤ p by omega)
  have hadd1 := binop_add (a := p) (b := 1) (by omega) (by omega)
  rw [hi2]
  cases q3 : decide (i.op = 5) with
  | true =>
    have q : i.op = 5 := by simpa using q3
    have hg : goesTo i p = i.a := by rw [goesTo, if_pos q]
    simp [Tryz.f220, dl220, h0, h1, hidx, hi1, q3, hg]
  | false =>
    have q : ¬ i.op = 5 := by simpa using q3
    have hg : goesTo i p = p + 1 := by rw [goesTo, if_neg q]
    simp [Tryz.f220, dl220, h0, h1, hidx, hi1, q3, hg, hadd1]
theorem cFollowing {tb : Tabs} (ht : tb.p 220 = some rFollowing) (l : List NInstr) (p : Int) (i : NInstr) (hi : atI l p = some i) (hp : inI p l.length = true) (hl : l.length ≤ 140737488355328) : rl Tryz.prog cx tb 220 [sl (l.map NInstr.t), .int .i64 p] = some (.int .i64 (goesTo i p)) := by
  have := rl_of ht okFollowing (l, p) ⟨hp, hl⟩
  simp only [rFollowing, hi] at this; exact this
end Go.Proofs.YtddpfdjgppabhaaGreatDoor
