/-
  PROVED: turnoutlaw14.TernNumbers answers true (no further condition): the closed run of its examples is evaluated by the kernel over an evaluator that is proved sound.
-/
import Derived.Test.YtdepaeohpfcbgaaGreatRunsT
import Derived.Test.YtdepaeohpfcbgaaGreatClosedTern
import Derived.ProofKit
import Derived.Handed
namespace Go.Proofs.YtdepaeohpfcbgaaGreat
open Go.ChangeShapes Go.WideShapes Go.ChangeAt Go.RowKit Go.Eng
set_option linter.all false
set_option maxRecDepth 100000
def GH : IHeap := ⟨.leaf, 0, gOf lg⟩

theorem tern_run : ∃ H', ev SST6 3 [] GH = some (.ret (.sc (.bool true)), H') := by
  have h := runT6
  unfold Memo.shows at h
  simp only [Bool.and_eq_true] at h
  obtain ⟨⟨⟨⟨⟨h, _⟩, _⟩, _⟩, _⟩, _⟩ := h
  have e : ev SST6 mmT6.g mmT6.xs ⟨hOf mmT6.l0 .leaf, mmT6.N, gOf lg⟩ = ev SST6 3 [] GH := rfl
  rw [e] at h
  cases hr : ev SST6 3 [] GH with
  | none => rw [hr] at h; cases h
  | some r =>
    obtain ⟨r, H'⟩ := r
    rw [hr] at h
    simp only [Bool.and_eq_true] at h
    have := reqs_ok h.1.1
    refine ⟨H', ?_⟩
    rw [← this]; rfl

theorem tern_calls [Far] {w : World} (h : Sim J.none GH w) : Calls PP 3 #[] w fun e w' => e = .returned (.bool true) ∧ Below w.heap.size w w' := by
  obtain ⟨H', hr⟩ := tern_run
  obtain ⟨_, _, hc⟩ := ev_ok SST6_ok _ _ _ _ _ hr
  refine (hc J.none w #[] h ⟨rfl, fun k hk => by simp at hk⟩).mono ?_
  rintro e w' ⟨j', q1, q2, q3, q4⟩
  cases e with
  | returned v =>
    have hv : VR j' w' (.sc (.bool true)) v := q4
    cases hv
    exact ⟨rfl, ⟨q2.os, q2.tape, q2.output, q2.size, fun B hB => (q2.keep B hB (J.none_has B)).1⟩⟩
  | panicked ch => exact q4.elim
  | outgrown => exact q4.elim

theorem own : ownKnob PP.godebug = none := by kernel_rfl

theorem tern_lifted (os : Os) (started : os.Started) (H : Type) (enc : TypeId × Value → H) :
    ReturnsInHanded {} Tryz.checked os 3 .any (Rows.ternNumbersSpec.pre6 enc PP Tryz.f3 Rows.ternNumbersRow.domain false) (Rows.ternNumbersSpec.post enc PP Tryz.f3 false true false false) := by
  refine returnsInHanded_of_change (C := Tryz.checked) own started (by kernel_rfl) Tryz.func3
    (ChangeSpec.witness6 (enc := enc) (C := Tryz.checked) false ⟨#[], #[], []⟩ 8 (by kernel_rfl) (by kernel_rfl) (by kernel_rfl) (by kernel_rfl)) ?_
  intro W base args ds gs before hval0 hW hcnd _
  have hW' := hW
  obtain ⟨p, q, hA0, hV, rfl, hfz, hnd⟩ := hW
  have hA : DataW.TrodAll enc PP W 0 (fun _ => true) true Tryz.f3.params.toList args.toList ds p := hA0
  rw [Tryz.params3] at hA
  obtain ⟨rfl, rfl, rfl⟩ := trodAll_none hA
  obtain ⟨rfl, rfl⟩ := trodVars_none hV
  letI : Far := ⟨fun _ => False⟩
  refine (tern_calls (Sim.empty W (fun _ h => h.elim))).mono fun e W' ⟨he, hb⟩ => ?_
  subst he
  exact ⟨_, rfl, _, _, _, [], [], [], hW', trodAll_mk1 (shut_bool Tryz.underlying4 _), trodAll_mk0, rfl, hb.frame _, fun h => by cases h⟩

theorem ternNumbers_holds : Rows.TernNumbersSaid :=
  OpenClaim.holds_of_wide 3 Tryz.f3 rfl rfl rfl rfl rfl rfl rfl ⟨rfl, rfl, rfl, rfl, rfl⟩ rfl rfl rfl rfl rfl (by kernel_rfl) Tryz.func3 tern_closed
    (of_decide_eq_true (by kernel_rfl)) (by unfold Func.isWrapper; first | (rw [if_pos (by decide +kernel)]; kernel_rfl) | (rw [if_neg (by decide +kernel)]; exact ⟨rfl, rfl⟩))
    (fun os started H enc _ => tern_lifted os started H enc)
#print axioms ternNumbers_holds
end Go.Proofs.YtdepaeohpfcbgaaGreat
