/-
  PROVED: turnoutlaw11.MatchNumbers answers true (the tied card; no further condition): the closed run of its examples is evaluated by the kernel over an evaluator that is proved sound.
-/
import Derived.Test.YtgfjodldjaojhaaGreatDoorShown
import Derived.Test.YtgfjodldjaojhaaGreatDoorFrame
import Derived.Test.YtgfjodldjaojhaaGreatDoorClosedNumbers
import Derived.Test.YtgfjodldjaojhaaGreatDoorTie
import Derived.Test.YtgfjodldjaojhaaGreatDoorCards
import Derived.ProofKit
import Derived.OpenShut
import Derived.LaidMore
import Derived.Lay
import Derived.SevenTiedAt
import Derived.Stop.Joined
namespace Go.Proofs.YtgfjodldjaojhaaGreatDoor
open Go.ChangeShapes Go.WideShapes Go.ChangeAt Go.RowKit Go.Eng
set_option linter.all false
set_option maxRecDepth 100000

theorem numbers_calls {w : World} (h : Sim J.none GH w) : Calls PP 3 #[] w fun e w' => e = .returned (.bool true) ∧ Below w.heap.size w w' := by
  go_enter Tryz.func3, Tryz.ntmps3
  go_wp2_with (go_at_call 14; refine (shown_calls h).mono ?_; rintro e w' ⟨rfl, hb⟩)
  go_ret
  exact ⟨rfl, hb⟩

theorem own : ownKnob PP.godebug = none := by kernel_rfl

theorem numbers_lifted (os : Os) (started : os.Started) (H : Type) (enc : TypeId × Value → H) :
    ReturnsInHanded {} Tryz.checked os 3 .any (fun w args => (Rows.matchNumbersSpec.pre enc PP Tryz.f3 Rows.matchNumbersRow.domain false w args ∧ laidMetH PP Rows.matchNumbersRow.laid w) ∧ sizedMet enc PP Tryz.f3 (OpenSpec.ofChange Rows.matchNumbersSpec) false w args)
      (Rows.matchNumbersSpec.post enc PP Tryz.f3 false true false false) := by
  refine returns_laid_shaped (C := Tryz.checked) (X := fun w _ => laidMetH PP Rows.matchNumbersRow.laid w) (fun _ _ _ hh h => h.of_heap hh) own started (by kernel_rfl) Tryz.func3
    (ChangeSpec.witness_shaped (enc := enc) (C := Tryz.checked) (os := os) (X := fun w _ => laidMetH PP Rows.matchNumbersRow.laid w) false (World.laidAll PP os Rows.matchNumbersRow.laid) #[] 8 (World.laidAll_os _ _ _)
      (World.shaped_of_ZipB (by kernel_rfl) (by kernel_rfl)) (by kernel_rfl) (by kernel_rfl) (by kernel_rfl)
      (by rw [MakeChecks.laidMetH_plain _ _ _ (by kernel_rfl)]; exact laidMet_laidAll _ (by kernel_rfl) (by kernel_rfl))) ?_
  intro W base args ds gs before hval0 hW hc _ hL hsh _
  have hW' := hW
  obtain ⟨p, q, hA0, hV, rfl, _, _⟩ := hW
  have hA : DataW.TrodAll enc PP W 0 (fun _ => true) true Tryz.f3.params.toList args.toList ds p := hA0
  rw [Tryz.params3] at hA
  obtain ⟨rfl, rfl, rfl⟩ := trodAll_none hA
  obtain ⟨rfl, rfl⟩ := trodVars_none hV
  have hL : laidMetH PP Rows.matchNumbersRow.laid W := hL
  rw [MakeChecks.laidMetH_plain _ _ _ (by kernel_rfl)] at hL
  refine (numbers_calls (vars_sim hL hsh)).mono fun e W' ⟨he, hb⟩ => ?_
  subst he
  exact ⟨_, rfl, _, _, _, [], [], [], hW', trodAll_mk1 (shut_bool Tryz.underlying4 _), trodAll_mk0, rfl, hb.frame _, fun h => by cases h⟩

theorem numbers_func : PP.funcNamed Rows.matchNumbersRow.func = some 3 := by kernel_rfl
theorem numbers_row : Rows.MatchNumbersSaid :=
  OpenClaim.holds_of_wide 3 Tryz.f3 rfl rfl rfl rfl rfl rfl rfl ⟨rfl, rfl, rfl, rfl, rfl⟩ rfl rfl rfl rfl rfl numbers_func Tryz.func3 numbers_closed
    (of_decide_eq_true (by kernel_rfl)) (by unfold Func.isWrapper; first | (rw [if_pos (by decide +kernel)]; kernel_rfl) | (rw [if_neg (by decide +kernel)]; exact ⟨rfl, rfl⟩))
    (fun os started H enc _ => numbers_lifted os started H enc)

theorem matchNumbers_holds : Rows.MatchNumbersCardSaid :=
  Claim7.holds_tied_plain_at .later [] [.data, .data, .data, .data, .sentinel, .sentinel, .pinned] true (true, "e52e6bb57c8cfc3e80bb7b9bb5d930956abf6151ec0d5a4d1035199be7549850") true
    numbers_row (fun _ h => by cases h) (by as_aux_lemma => kernel_rfl) (fun _ h => by cases h) matchNumbers_row_tie rfl ⟨rfl, rfl⟩ (by as_aux_lemma => kernel_rfl) rfl
    (fun f fn hf hfn => by
      obtain rfl : f = 3 := Option.some.inj ((show PP.funcNamed "turnout/turnoutlaw11.MatchNumbers" = some 3 from numbers_func).symm.trans hf) |>.symm
      obtain rfl : fn = Tryz.f3 := (Option.some.inj (Tryz.func3.symm.trans hfn)).symm
      exact ⟨by as_aux_lemma => kernel_rfl, fun j t ht => by
        rw [Tryz.params3] at ht
        simp at ht⟩)
    (by as_aux_lemma => kernel_rfl)
#print axioms matchNumbers_holds
end Go.Proofs.YtgfjodldjaojhaaGreatDoor
