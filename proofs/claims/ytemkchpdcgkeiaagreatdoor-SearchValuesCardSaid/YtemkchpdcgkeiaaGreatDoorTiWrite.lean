/- How the state changes: a new box, a changed box. -/
import Derived.Test.YtemkchpdcgkeiaaGreatDoorTiRead3
set_option linter.unusedVariables false
namespace Go.TI
set_option linter.unusedSimpArgs false
set_option linter.unusedVariables false
section
variable {P : Program} {cx : Ctx} {base : Nat} {w : World} {μ : Mu} {h h' : H} {mask : Nat} {e : Env} {a : Act} {o : Oper} {hp hp' : Array Obj}

theorem St.get_lt (s : St cx base hp μ h) {b : Nat} {L : Loc} (hb : μ b = some L) : b < h.size := by
  obtain ⟨x, h1, _⟩ := s.box b L hb
  rw [H.get_eq] at h1
  split at h1
  · assumption
  · simp at h1

theorem St.new_none (s : St cx base hp μ h) : μ h.size = none := by
  cases hm : μ h.size with
  | none => rfl
  | some L => exact absurd (s.get_lt hm) (Nat.lt_irrefl _)

def setMu (μ : Mu) (b : Nat) (L : Loc) : Mu := ⟨fun c => if c = b then some L else μ c, μ.res⟩

theorem setMu_same (μ : Mu) (b : Nat) (L : Loc) : setMu μ b L b = some L := by simp [setMu]
theorem setMu_other (μ : Mu) {b c : Nat} (L : Loc) (h : c ≠ b) : setMu μ b L c = μ c := by simp [setMu, h]

def H.cons (h : H) (x : Box) : H := ⟨h.size + 1, h.low, x :: h.boxes⟩

theorem H.new_cons (v : Nat → T) (h : H) (x : Box) : h.new v x = some (v h.size, h.cons x) := H.new_eq v h x

theorem H.get_cons_same (hw : h.boxes.length = h.size) (x : Box) : (h.cons x).get h.size = some x := by
  rw [H.get_eq]
  simp [H.cons]

theorem H.get_cons_other {b : Nat} (hb : b < h.size) (x : Box) : (h.cons x).get b = h.get b := by
  rw [H.get_eq, H.get_eq]
  have h1 : b < (h.cons x).size := by show b < h.size + 1; omega
  rw [if_pos h1, if_pos hb]
  show (x :: h.boxes)[h.size + 1 - 1 - b]? = _
  have : h.size + 1 - 1 - b = (h.size - 1 - b) + 1 := by omega
  rw [this]; simp

/-- A new block that is a new box's. -/
theorem St.new (s : St cx base hp μ h) (ob : Obj) (L : Loc) (x : Box) (hblk : L.blk = hp.size) (hx : Ext hp μ (hp.push ob) (setMu μ h.size L) → BoxOk (hp.push ob) (setMu μ h.size L) L x) :
    St cx base (hp.push ob) (setMu μ h.size L) (h.cons x) ∧ Ext hp μ (hp.push ob) (setMu μ h.size L) ∧ Dom μ (setMu μ h.size L) h.size (h.cons x).size := by
  have hnone := s.new_none
  have hext : Ext hp μ (hp.push ob) (setMu μ h.size L) := by
    refine ⟨by simp, fun i hi hn => ⟨?_, ?_⟩, fun b L' hb => ?_, rfl, fun i hi _ => ?_⟩
    rotate_right
    · rw [Array.getElem?_push]; simp; omega
    · rw [Array.getElem?_push]; simp; omega
    · rintro (⟨b, L', hb, rfl⟩ | hr)
      · by_cases hbb : b = h.size
        · subst hbb; rw [setMu_same] at hb; simp at hb; subst hb; omega
        · rw [setMu_other _ _ hbb] at hb; exact hn (.inl ⟨b, L', hb, rfl⟩)
      · exact hn (.inr hr)
    · have : b ≠ h.size := by rintro rfl; rw [hnone] at hb; simp at hb
      exact ⟨L', by rw [setMu_other _ _ this]; exact hb, .inl rfl⟩
  refine ⟨⟨?_, ?_, ?_, ?_, ?_, ?_, ?_, ?_⟩, hext, ?_⟩
  · show (x :: h.boxes).length = h.size + 1
    simp [s.wf]
  · simp; have := s.fit; omega
  · intro b L' hb
    by_cases hbb : b = h.size
    · subst hbb; rw [setMu_same] at hb; simp at hb; subst hb
      exact ⟨x, H.get_cons_same s.wf x, hx hext⟩
    · rw [setMu_other _ _ hbb] at hb
      obtain ⟨y, h1, h2⟩ := s.box b L' hb
      refine ⟨y, by rw [H.get_cons_other (s.get_lt hb)]; exact h1, h2.ext hext ?_⟩
      have := s.lt hb
      rw [Array.getElem?_push]; simp; omega
  · intro b b' L1 L2 h1 h2 he
    by_cases hb : b = h.size <;> by_cases hb' : b' = h.size
    · omega
    · subst hb; rw [setMu_same] at h1; simp at h1; subst h1
      rw [setMu_other _ _ hb'] at h2
      have := s.lt h2; omega
    · subst hb'; rw [setMu_same] at h2; simp at h2; subst h2
      rw [setMu_other _ _ hb] at h1
      have := s.lt h1; omega
    · rw [setMu_other _ _ hb] at h1; rw [setMu_other _ _ hb'] at h2
      exact s.inj b b' L1 L2 h1 h2 he
  · intro b L' hb
    by_cases hbb : b = h.size
    · subst hbb; rw [setMu_same] at hb; simp at hb; subst hb; rw [hblk]; exact s.fit
    · rw [setMu_other _ _ hbb] at hb; exact s.low b L' hb
  · intro b L' hb hr
    by_cases hbb : b = h.size
    · subst hbb; rw [setMu_same] at hb; simp at hb; subst hb
      have := s.resLt _ hr; omega
    · rw [setMu_other _ _ hbb] at hb; exact s.apart b L' hb hr
  · intro i hr
    have := s.resLt i hr
    simp; omega
  · intro g cs hg
    exact (s.glob g cs hg).ext hext
  · refine ⟨by show h.size ≤ h.size + 1; omega, fun b hb => ?_, fun b h1 h2 => ?_⟩
    · by_cases hbb : b = h.size
      · right; exact ⟨by omega, by show b < h.size + 1; omega⟩
      · left; rwa [setMu_other _ _ hbb] at hb
    · have : b = h.size := by have h2 : b < h.size + 1 := h2; omega
      subst this; rw [setMu_same]; simp

theorem put_get {b : Nat} {x : Box} (hh : h.put b x = some h') (hw : h.boxes.length = h.size) :
    h'.size = h.size ∧ h'.boxes.length = h'.size ∧ h'.get b = some x ∧ ∀ c, c ≠ b → h'.get c = h.get c := by
  obtain ⟨h1, h2, rfl⟩ := H.put_eq_some.1 hh
  refine ⟨rfl, by simp [hw], ?_, fun c hc => ?_⟩
  · rw [H.get_eq]; simp [h1, h2]
  · rw [H.get_eq, H.get_eq]
    by_cases hcs : c < h.size
    · simp only [hcs, if_true]
      rw [List.getElem?_set_ne]
      omega
    · simp [hcs]

/-- A box is changed: its place may be a new one, with a greater count of appends. -/
theorem St.change (s : St cx base hp μ h) {b : Nat} {L L' : Loc} {x' : Box} (hb : μ b = some L) (hput : h.put b x' = some h') (hsz : hp.size ≤ hp'.size) (hold : ∀ i, i < hp.size → i ≠ L.blk → hp'[i]? = hp[i]?)
    (hL : L' = L ∨ (L.ep < L'.ep ∧ (L'.blk = L.blk ∨ hp.size ≤ L'.blk))) (hx : Ext hp μ hp' (setMu μ b L') → BoxOk hp' (setMu μ b L') L' x') :
    St cx base hp' (setMu μ b L') h' ∧ Ext hp μ hp' (setMu μ b L') ∧ Dom μ (setMu μ b L') h.size h'.size := by
  obtain ⟨p1, p2, p3, p4⟩ := put_get hput s.wf
  have hblk : L'.blk = L.blk ∨ hp.size ≤ L'.blk := by
    rcases hL with rfl | hL
    · exact .inl rfl
    · exact hL.2
  have hext : Ext hp μ hp' (setMu μ b L') := by
    refine ⟨hsz, fun i hi hn => ⟨hold i hi fun k => hn (.inl ⟨b, L, hb, k.symm⟩), ?_⟩, fun c Lc hc => ?_, rfl, fun i hi hr => hold i hi fun k => s.apart b L hb (k ▸ hr)⟩
    · rintro (⟨c, Lc, hc, rfl⟩ | hr)
      · by_cases hcb : c = b
        · subst hcb; rw [setMu_same] at hc; simp at hc; subst hc
          rcases hblk with k | k
          · exact hn (.inl ⟨c, L, hb, k.symm⟩)
          · omega
        · rw [setMu_other _ _ hcb] at hc; exact hn (.inl ⟨c, Lc, hc, rfl⟩)
      · exact hn (.inr hr)
    · by_cases hcb : c = b
      · subst hcb
        rw [hb] at hc; simp at hc; subst hc
        refine ⟨L', setMu_same _ _ _, ?_⟩
        rcases hL with k | k
        · exact .inl k
        · exact .inr k.1
      · exact ⟨Lc, by rw [setMu_other _ _ hcb]; exact hc, .inl rfl⟩
  refine ⟨⟨p2, by have := s.fit; omega, ?_, ?_, ?_, ?_, fun i hr => Nat.lt_of_lt_of_le (s.resLt i hr) hsz, ?_⟩, hext, ⟨by omega, fun c hc => ?_, fun c h1 h2 => by omega⟩⟩
  · intro c Lc hc
    by_cases hcb : c = b
    · subst hcb; rw [setMu_same] at hc; simp at hc; subst hc
      exact ⟨x', p3, hx hext⟩
    · rw [setMu_other _ _ hcb] at hc
      obtain ⟨y, h1, h2⟩ := s.box c Lc hc
      refine ⟨y, by rw [p4 c hcb]; exact h1, h2.ext hext (hold _ (s.lt hc) fun k => hcb (s.inj c b Lc L hc hb k))⟩
  · intro c c' L1 L2 h1 h2 he
    by_cases hc : c = b <;> by_cases hc' : c' = b
    · omega
    · subst hc; rw [setMu_same] at h1; simp at h1; subst h1
      rw [setMu_other _ _ hc'] at h2
      rcases hblk with k | k
      · exact absurd (s.inj c' c L2 L h2 hb (by omega)) hc'
      · have := s.lt h2; omega
    · subst hc'; rw [setMu_same] at h2; simp at h2; subst h2
      rw [setMu_other _ _ hc] at h1
      rcases hblk with k | k
      · exact absurd (s.inj c c' L1 L h1 hb (by omega)) hc
      · have := s.lt h1; omega
    · rw [setMu_other _ _ hc] at h1; rw [setMu_other _ _ hc'] at h2
      exact s.inj c c' L1 L2 h1 h2 he
  · intro c Lc hc
    by_cases hcb : c = b
    · subst hcb; rw [setMu_same] at hc; simp at hc; subst hc
      rcases hblk with k | k
      · rw [k]; exact s.low _ _ hb
      · have := s.fit; omega
    · rw [setMu_other _ _ hcb] at hc; exact s.low c Lc hc
  · intro c Lc hc hr
    by_cases hcb : c = b
    · subst hcb; rw [setMu_same] at hc; simp at hc; subst hc
      rcases hblk with k | k
      · exact s.apart c L hb (by rw [← k]; exact hr)
      · have := s.resLt _ hr; omega
    · rw [setMu_other _ _ hcb] at hc; exact s.apart c Lc hc hr
  · intro g cs hg
    exact (s.glob g cs hg).ext hext
  · left
    by_cases hcb : c = b
    · subst hcb; rw [hb]; simp
    · rwa [setMu_other _ _ hcb] at hc
end
end Go.TI
