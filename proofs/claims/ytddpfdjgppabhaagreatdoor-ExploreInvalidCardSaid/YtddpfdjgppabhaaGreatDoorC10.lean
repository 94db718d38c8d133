/- PROVED: the law interleave/interleavelaw10.ExploreInvalid returns true for every code and every depth, and leaves its arguments and all that was there as it was: the row exploreInvalidRow and its card (ExploreInvalidCardSaid). Conditions: those of the given row alone (the listed package variables start as the text lays them). The texts W.. walk through the functions' own code, the texts Ti.. bear that out against the model. -/
import Derived.Test.YtddpfdjgppabhaaGreatDoorW10
import Derived.Test.YtddpfdjgppabhaaGreatDoorDRead
import Derived.Test.YtddpfdjgppabhaaGreatDoorAFacts
import Derived.Below
import Derived.Carry
set_option linter.unusedSimpArgs false
set_option linter.unusedVariables false
namespace Go.Proofs.YtddpfdjgppabhaaGreatDoor
open Go Go.TI Go.RowKit Go.ChangeShapes Go.WideShapes
set_option linter.unusedVariables false
set_option maxRecDepth 100000
theorem sm_of {c : NCode} (h : ok31 c) : c.sm := by
  intro x hx
  have h1 : ok29 c.threads := h.2
  have h2 : ok46 x := h1.2 x hx
  have h3 : ok44 x.instrs := h2.2
  have := h3.1
  omega
theorem stand : Tryz.f3.params.toList.all (fun t => !Tryz.prog.wantsStandIn t) = true := by kernel_rfl
theorem params_eq : Tryz.f3.params.toList = [31, 3] := by kernel_rfl
theorem params_get : Tryz.f3.params[0]? = some 31 ∧ Tryz.f3.params[1]? = some 3 := ⟨by kernel_rfl, by kernel_rfl⟩
theorem und_code : ∃ fs, Tryz.prog.underlying 31 = some (.struct fs) := by
  obtain ⟨d, h1, h2⟩ := und_of (tysOk.ty _ _ cxty31)
  obtain ⟨fs, rfl, _⟩ := uOf_struct h2
  exact ⟨fs, h1⟩
theorem und_int : Tryz.prog.underlying 3 = some (.int .i64) := by
  obtain ⟨d, h1, h2⟩ := und_of (tysOk.ty _ _ cxty3)
  rw [h1, uOf_int h2]
theorem laidOut : laidOutB Tryz.prog = true := by kernel_rfl
theorem exploreInvalid_lifted (os : Os) (started : os.Started) (H : Type) (enc : TypeId × Value → H) :
    ReturnsInHanded {} Tryz.checked os 3 .any (fun w args => (Rows.exploreInvalidSpec.pre enc Tryz.prog Tryz.f3 [] false w args ∧ laidMetH Tryz.prog Rows.exploreInvalidRow.laid w) ∧ sizedMet enc Tryz.prog Tryz.f3 (OpenSpec.ofChange Rows.exploreInvalidSpec) false w args)
      (Rows.exploreInvalidSpec.post enc Tryz.prog Tryz.f3 false true false false) := by
  refine returnsInHanded_of_change_and (C := Tryz.checked) (X := fun w _ => laidMetH Tryz.prog Rows.exploreInvalidRow.laid w) (fun _ _ _ hh h => h.of_heap hh) own started (by kernel_rfl) Tryz.func3
    (ChangeSpec.witness_shaped (enc := enc) (C := Tryz.checked) (os := os) (X := fun w _ => laidMetH Tryz.prog Rows.exploreInvalidRow.laid w) false (World.laidAll Tryz.prog os Rows.exploreInvalidRow.laid)
      #[.agg #[.slice none 0 0, .slice none 0 0, .slice none 0 0, .slice none 0 0, .slice none 0 0, .slice none 0 0, .slice none 0 0], .int .i64 0] 8 (World.laidAll_os _ _ _)
      (World.shaped_of_ZipB (by kernel_rfl) (by kernel_rfl)) (by kernel_rfl) (by kernel_rfl) (by kernel_rfl)
      (by rw [MakeChecks.laidMetH_plain _ _ _ (by kernel_rfl)]; exact laidMet_laidAll _ (by kernel_rfl) (by kernel_rfl))) ?_
  intro W base args ds gs before hval0 hW _ hz hL _
  have hW' := hW
  obtain ⟨p, q, hA0, hV, rfl, _, _⟩ := hW
  rw [params_eq] at hA0 hz
  obtain ⟨rfl, rfl⟩ := trodVars_none hV
  obtain ⟨v0, v1, d0, d1, p0, p1, rfl, rfl, rfl, h0, h1⟩ := trodAll_two hA0
  rw [MakeChecks.laidMetH_plain _ _ _ (by kernel_rfl)] at hL
  have hw0 : ∀ x ∈ d0.weights Tryz.prog 31, x ≤ reachBytes := by
    intro x hx
    have := List.all_eq_true.1 hz x (by
      show x ∈ DataW.weightsEach Tryz.prog (31 :: _) (d0 :: _)
      rw [DataW.weightsEach]; exact List.mem_append_left _ hx)
    simpa using this
  obtain ⟨fs, hfs⟩ := und_code
  obtain ⟨a, rfl, _⟩ := okWide_struct hfs (hval0 0 _ _ params_get.1 rfl)
  obtain ⟨n, rfl⟩ := okWide_int und_int (hval0 1 _ _ params_get.2 rfl)
  have h0' := h0
  obtain ⟨fuel, hf0⟩ := h0
  obtain ⟨ts, r0, s0, _, c, rfl, hc⟩ := rd31.2 H enc W 0 _ true fuel _ d0 p0 hf0 hw0
  have hL' : RelL W.heap noMu [c.t, .int .i64 n] #[Value.agg a, Value.int .i64 n].toList := RelL.cons (relV_struct r0 s0 ⟨_, rfl⟩) (RelL.one (.int _ _))
  have hpure := okLaw (c, n) (sm_of hc)
  have hlt : ∀ x ∈ p0 ++ p1, x.block < W.heap.size := fun x hx => hW'.lt x (by simpa using hx)
  refine (calls_pure Tryz.func3 (by kernel_rfl) (c := TI.bodyOf ⟨Tryz.f3, 0, false, none⟩) (by kernel_rfl) hpure W (fun g cs h => (glsAll W hL).find h) hL').mono fun e W' ⟨he, hb⟩ => ?_
  subst he
  have hargs : DataW.TrodAll enc Tryz.prog W' 0 (fun b => decide (b < W.heap.size)) true Tryz.f3.params.toList [Value.agg a, Value.int .i64 n] [d0, d1] (p0 ++ p1) := by
    rw [params_eq]
    exact trodAll_mk2 (Below.trod laidOut (by kernel_rfl) (of_decide_eq_true (by kernel_rfl)) h0' hb fun x hx => hlt x (List.mem_append_left _ hx)) (Below.trod laidOut (by kernel_rfl) (of_decide_eq_true (by kernel_rfl)) h1 hb fun x hx => hlt x (List.mem_append_right _ hx))
  exact ⟨_, rfl, _, _, _, [], p0 ++ p1, [], hW', trodAll_mk1 (shut_bool Tryz.underlying4 _), hargs, rfl, hb.frame _, fun h => by cases h⟩
theorem exploreInvalid_holds : Rows.exploreInvalidRow.holds Tryz.pinned (OpenSpec.ofChange Rows.exploreInvalidSpec) :=
  OpenClaim.holds_of_wide 3 Tryz.f3 rfl rfl rfl rfl rfl rfl rfl ⟨rfl, rfl, rfl, rfl, rfl⟩ rfl rfl rfl rfl rfl exploreInvalid_named Tryz.func3 exploreInvalid_joined
    (of_decide_eq_true (by kernel_rfl)) (by unfold Func.isWrapper; first | (rw [if_pos (by decide +kernel)]; kernel_rfl) | (rw [if_neg (by decide +kernel)]; exact ⟨rfl, rfl⟩))
    (fun os started H enc _ => exploreInvalid_lifted os started H enc)
theorem exploreInvalid_card_holds : Rows.ExploreInvalidCardSaid :=
  Claim7.holds_tied_plain_at .later [] [.data, .data, .data, .data, .sentinel, .sentinel, .data, .data, .pinned] true (true, "ae410b683af9e573717e15128b96ca8bf26712b9c751e990e75959c585e994aa") true exploreInvalid_holds (fun _ h => by cases h) exploreInvalid_wf (fun _ h => by cases h) exploreInvalid_row_tie rfl ⟨rfl, rfl⟩ exploreInvalid_main rfl
    (fun f fn hf hfn => by
      obtain rfl : f = 3 := Option.some.inj (exploreInvalid_named.symm.trans hf) |>.symm
      obtain rfl : fn = Tryz.f3 := (Option.some.inj (Tryz.func3.symm.trans hfn)).symm
      refine ⟨exploreInvalid_looks, fun j t ht => ?_⟩
      have hm : t ∈ Tryz.f3.params.toList := Array.mem_toList_iff.2 (Array.mem_of_getElem? ht)
      have hs := List.all_eq_true.1 stand t hm
      simp only [Bool.not_eq_true'] at hs
      exact hs)
    exploreInvalid_goes
end Go.Proofs.YtddpfdjgppabhaaGreatDoor
