/-
  PROVED: turnoutlaw15.TablesNumbers answers true (no further condition): the closed run of its examples is evaluated by the kernel over an evaluator that is proved sound.
-/
import Derived.Test.YtdepaeohpfcbgaaGreatRunsB
import Derived.Test.YtdepaeohpfcbgaaGreatClosedTables
import Derived.ProofKit
import Derived.Handed
namespace Go.Proofs.YtdepaeohpfcbgaaGreat
open Go.ChangeShapes Go.WideShapes Go.ChangeAt Go.RowKit Go.Eng
set_option linter.all false
set_option maxRecDepth 100000
def GH : IHeap := ⟨.leaf, 0, gOf lg⟩

theorem tables_run : ∃ H', ev SSB20 4 [] GH = some (.ret (.sc (.bool true)), H') := by
  have h := runB20
  unfold Memo.shows at h
  simp only [Bool.and_eq_true] at h
  obtain ⟨⟨⟨⟨⟨h, _⟩, _⟩, _⟩, _⟩, _⟩ := h
  have e : ev SSB20 mmB20.g mmB20.xs ⟨hOf mmB20.l0 .leaf, mmB20.N, gOf lg⟩ = ev SSB20 4 [] GH := rfl
  rw [e] at h
  cases hr : ev SSB20 4 [] GH with
  | none => rw [hr] at h; cases h
  | some r =>
    obtain ⟨r, H'⟩ := r
    rw [hr] at h
    simp only [Bool.and_eq_true] at h
    have := reqs_ok h.1.1
    refine ⟨H', ?_⟩
    rw [← this]; rfl

theorem tables_calls [Far] {w : World} (h : Sim J.none GH w) : Calls PP 4 #[] w fun e w' => e = .returned (.bool true) ∧ Below w.heap.size w w' := by
  obtain ⟨H', hr⟩ := tables_run
  obtain ⟨_, _, hc⟩ := ev_ok SSB20_ok _ _ _ _ _ hr
  refine (hc J.none w #[] h ⟨rfl, fun k hk => by simp at hk⟩).mono ?_
  rintro e w' ⟨j', q1, q2, q3, q4⟩
  cases e with
  | returned v =>
    have hv : VR j' w' (.sc (.bool true)) v := q4
    cases hv
    exact ⟨rfl, ⟨q2.os, q2.tape, q2.output, q2.size, fun B hB => (q2.keep B hB (J.none_has B)).1⟩⟩
  | panicked ch => exact q4.elim
  | outgrown => exact q4.elim

theorem own : ownKnob PP.godebug = none := by kernel_rfl

theorem tables_lifted (os : Os) (started : os.Started) (H : Type) (enc : TypeId × Value → H) :
    ReturnsInHanded {} Tryz.checked os 4 .any (Rows.tablesNumbersSpec.pre6 enc PP Tryz.f4 Rows.tablesNumbersRow.domain false) (Rows.tablesNumbersSpec.post enc PP Tryz.f4 false true false false) := by
  refine returnsInHanded_of_change (C := Tryz.checked) own started (by kernel_rfl) Tryz.func4
    (ChangeSpec.witness6 (enc := enc) (C := Tryz.checked) false ⟨#[], #[], []⟩ 8 (by kernel_rfl) (by kernel_rfl) (by kernel_rfl) (by kernel_rfl)) ?_
  intro W base args ds gs before hval0 hW hcnd _
  have hW' := hW
  obtain ⟨p, q, hA0, hV, rfl, hfz, hnd⟩ := hW
  have hA : DataW.TrodAll enc PP W 0 (fun _ => true) true Tryz.f4.params.toList args.toList ds p := hA0
  rw [Tryz.params4] at hA
  obtain ⟨rfl, rfl, rfl⟩ := trodAll_none hA
  obtain ⟨rfl, rfl⟩ := trodVars_none hV
  letI : Far := ⟨fun _ => False⟩
  refine (tables_calls (Sim.empty W (fun _ h => h.elim))).mono fun e W' ⟨he, hb⟩ => ?_
  subst he
  exact ⟨_, rfl, _, _, _, [], [], [], hW', trodAll_mk1 (shut_bool Tryz.underlying4 _), trodAll_mk0, rfl, hb.frame _, fun h => by cases h⟩

theorem tablesNumbers_holds : Rows.TablesNumbersSaid :=
  OpenClaim.holds_of_wide 4 Tryz.f4 rfl rfl rfl rfl rfl rfl rfl ⟨rfl, rfl, rfl, rfl, rfl⟩ rfl rfl rfl rfl rfl (by kernel_rfl) Tryz.func4 tables_closed
    (of_decide_eq_true (by kernel_rfl)) (by unfold Func.isWrapper; first | (rw [if_pos (by decide +kernel)]; kernel_rfl) | (rw [if_neg (by decide +kernel)]; exact ⟨rfl, rfl⟩))
    (fun os started H enc _ => tables_lifted os started H enc)
#print axioms tablesNumbers_holds
end Go.Proofs.YtdepaeohpfcbgaaGreat
