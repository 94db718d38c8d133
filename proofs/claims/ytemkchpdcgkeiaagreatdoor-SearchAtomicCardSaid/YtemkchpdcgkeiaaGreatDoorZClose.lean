/- PROVED: the law interleave/interleavelaw21.SearchAtomic, called with no argument, returns true and leaves all that was there as it was: the row searchAtomicRow and its card (SearchAtomicCardSaid). Conditions: those of the given row alone (the listed package variables start as the text lays them). The run is carried out in the kernel by a verified interpreter (the texts Ti..). By program (mkclose.py). -/
import Derived.Test.YtemkchpdcgkeiaaGreatDoorZRunZ
import Derived.Test.YtemkchpdcgkeiaaGreatDoorZFacts
import Derived.Test.YtemkchpdcgkeiaaGreatDoorTiJ5
import Derived.Test.YtemkchpdcgkeiaaGreatDoorCards
import Derived.Test.YtemkchpdcgkeiaaGreatDoorTie
import Derived.ProofKit
import Derived.Lay
import Derived.LaidOnce
import Derived.SevenTiedAt
import Derived.Below
set_option linter.unusedSimpArgs false
set_option linter.unusedVariables false
namespace Go.Proofs.YtemkchpdcgkeiaaGreatDoor
open Go Go.TI Go.RowKit Go.ChangeShapes Go.WideShapes
set_option linter.unusedVariables false
set_option maxRecDepth 100000
def kw1 : List (List UInt8) := [[118, 97, 114], [118, 111, 108, 97, 116, 105, 108, 101], [109, 117, 116, 101, 120], [114, 119, 108, 111, 99, 107], [99, 111, 110, 100], [102, 117, 116, 117, 114, 101], [116, 104, 114, 101, 97, 100], [105, 102], [101, 108, 115, 101], [119, 104, 105, 108, 101], [108, 111, 99, 107], [114, 101, 97, 100], [119, 114, 105, 116, 101], [116, 114, 97, 110, 115, 97, 99, 116, 105, 111, 110], [97, 116, 111, 109, 105, 99], [119, 97, 105, 116], [110, 111, 116, 105, 102, 121], [110, 111, 116, 105, 102, 121, 97, 108, 108], [115, 112, 97, 119, 110], [106, 111, 105, 110], [115, 101, 116], [103, 101, 116]]
theorem glsAll (W : World) (hL : laidMet Tryz.prog Rows.searchAtomicRow.laid W) : gls.All fun g cs => RelV W.heap noMu (.tptr cs) (.pointer (some ⟨g, 0, none⟩)) := (.node .nil (glob_strings (P := Tryz.prog) (w := W) (name := "interleave/token.keywords") (g := 1) (k := 22) (t := 337) (e := 9) (ss := kw1) (cs := gl1) (by kernel_rfl) (by kernel_rfl) (by kernel_rfl) (by kernel_rfl) (by kernel_rfl) (by kernel_rfl) (by kernel_rfl) (by kernel_rfl) (Lib.laidMet.reads hL (by simp [Rows.searchAtomicRow, kw1, Rows.laid_interleave_token_keywords]))) .nil)
theorem searchAtomic_calls (W : World) (hL : laidMet Tryz.prog Rows.searchAtomicRow.laid W) : Calls Tryz.prog 6 #[] W fun e W' => e = .returned (.bool true) ∧ Below W.heap.size W W' :=
  calls_true (fn := Tryz.f6) callsOk Tryz.func6 (by kernel_rfl) (c := TI.bodyOf ⟨Tryz.f6, 0, false, none⟩) (by kernel_rfl) runZ W fun g cs h => (glsAll W hL).find h
theorem own : ownKnob Tryz.prog.godebug = none := by kernel_rfl

theorem searchAtomic_lifted (os : Os) (started : os.Started) (H : Type) (enc : TypeId × Value → H) :
    ReturnsInHanded {} Tryz.checked os 6 .any (fun w args => (Rows.searchAtomicSpec.pre enc Tryz.prog Tryz.f6 [] false w args ∧ laidMetH Tryz.prog Rows.searchAtomicRow.laid w) ∧ sizedMet enc Tryz.prog Tryz.f6 (OpenSpec.ofChange Rows.searchAtomicSpec) false w args)
      (Rows.searchAtomicSpec.post enc Tryz.prog Tryz.f6 false true false false) := by
  refine returnsInHanded_of_change_and (C := Tryz.checked) (X := fun w _ => laidMetH Tryz.prog Rows.searchAtomicRow.laid w) (fun _ _ _ hh h => h.of_heap hh) own started (by kernel_rfl) Tryz.func6
    (ChangeSpec.witness_shaped (enc := enc) (C := Tryz.checked) (os := os) (X := fun w _ => laidMetH Tryz.prog Rows.searchAtomicRow.laid w) false (World.laidAll Tryz.prog os Rows.searchAtomicRow.laid) #[] 8 (World.laidAll_os _ _ _)
      (World.shaped_of_ZipB (by kernel_rfl) (by kernel_rfl)) (by kernel_rfl) (by kernel_rfl) (by kernel_rfl)
      (by rw [MakeChecks.laidMetH_plain _ _ _ (by kernel_rfl)]; exact laidMet_laidAll _ (by kernel_rfl) (by kernel_rfl))) ?_
  intro W base args ds gs before hval0 hW _ _ hL _
  have hW' := hW
  obtain ⟨p, q, hA0, hV, rfl, _, _⟩ := hW
  have hA : DataW.TrodAll enc Tryz.prog W 0 (fun _ => true) true [] args.toList ds p := hA0
  obtain ⟨rfl, rfl⟩ := trodVars_none hV
  obtain ⟨ha, rfl, rfl⟩ := trodAll_nil hA
  have ha : args = #[] := by simpa using ha
  subst ha
  rw [MakeChecks.laidMetH_plain _ _ _ (by kernel_rfl)] at hL
  refine (searchAtomic_calls W hL).mono fun e W' ⟨he, hb⟩ => ?_
  subst he
  exact ⟨_, rfl, _, _, _, [], [], [], hW', trodAll_mk1 (shut_bool Tryz.underlying4 _), rfl, rfl, hb.frame _, fun h => by cases h⟩

theorem searchAtomic_holds : Rows.searchAtomicRow.holds Tryz.pinned (OpenSpec.ofChange Rows.searchAtomicSpec) :=
  OpenClaim.holds_of_wide 6 Tryz.f6 rfl rfl rfl rfl rfl rfl rfl ⟨rfl, rfl, rfl, rfl, rfl⟩ rfl rfl rfl rfl rfl searchAtomic_named Tryz.func6 searchAtomic_joined
    (of_decide_eq_true (by kernel_rfl)) (by unfold Func.isWrapper; first | (rw [if_pos (by decide +kernel)]; kernel_rfl) | (rw [if_neg (by decide +kernel)]; exact ⟨rfl, rfl⟩))
    (fun os started H enc _ => searchAtomic_lifted os started H enc)
theorem searchAtomic_card_holds : Rows.SearchAtomicCardSaid :=
  Claim7.holds_tied_plain_at .later [] [.data, .data, .data, .data, .sentinel, .sentinel, .data, .pinned] true (true, "cb2bf198d57ee5f9def3aac962f1c42a35e3c1636470b598424f096dea3a5e42") true searchAtomic_holds (fun _ h => by cases h) searchAtomic_wf (fun _ h => by cases h) searchAtomic_row_tie rfl ⟨rfl, rfl⟩ searchAtomic_main rfl
    (fun f fn hf hfn => by
      obtain rfl : f = 6 := Option.some.inj (searchAtomic_named.symm.trans hf) |>.symm
      obtain rfl : fn = Tryz.f6 := (Option.some.inj (Tryz.func6.symm.trans hfn)).symm
      exact ⟨searchAtomic_looks, fun j t ht => by rw [show Tryz.f6.params = #[] by kernel_rfl] at ht; simp at ht⟩)
    searchAtomic_goes

end Go.Proofs.YtemkchpdcgkeiaaGreatDoor
