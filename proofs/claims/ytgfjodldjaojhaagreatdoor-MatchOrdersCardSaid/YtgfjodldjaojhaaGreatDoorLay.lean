/- turnoutref01.lay of any two words: evaluated with its words unknown (no condition). -/
import Derived.Test.YtgfjodldjaojhaaGreatDoorBase
namespace Go.Proofs.YtgfjodldjaojhaaGreatDoor
open Go Go.RowKit Go.Eng
set_option linter.all false
set_option maxRecDepth 100000
/-- Bit i of a word, as the machine reckons it. -/
def bitX (x : Int) (i : Nat) : Bool := (IntKind.u64.wrap ((BitVec.ofInt 64 (x.fdiv (2 ^ (min i 64))) &&& BitVec.ofInt 64 1).toNat : Int)) == 1
def layB (hi lo : Int) (j : Nat) : Bool := if j < 64 then bitX hi (63 - j) else bitX lo (127 - j)
def layL (hi lo : Int) : List IV := (List.range 128).map fun j => .sc (.bool (layB hi lo j))
def retOf (o : Option (IRes × IHeap)) : Option IRes := match o with | some (r, _) => some r | none => none
theorem lay_run (hi lo : Int) : retOf (ev noS 152 [.agg [.sc (.int .u64 hi), .sc (.int .u64 lo)]] IHeap.empty) = some (.ret (.agg (layL hi lo))) := by kernel_rfl

theorem lay_calls (hi lo : Int) (w : World) : Calls PP 152 #[.agg #[.int .u64 hi, .int .u64 lo]] w fun e w' =>
    (∃ X : Array Value, e = .returned (.agg X) ∧ X.size = 128 ∧ ∀ j, j < 128 → X[j]? = some (.bool (layB hi lo j))) ∧ Below w.heap.size w w' := by
  have h := lay_run hi lo
  cases hr : ev noS 152 [.agg [.sc (.int .u64 hi), .sc (.int .u64 lo)]] IHeap.empty with
  | none => rw [hr] at h; cases h
  | some r =>
    obtain ⟨r, H'⟩ := r
    rw [hr] at h
    injection h with h
    subst h
    obtain ⟨_, _, hc⟩ := ev_ok (noS_ok PP) _ _ _ _ _ hr
    refine (hc J.none w _ (Sim.empty w) ⟨rfl, fun k hk => ?_⟩).mono ?_
    · have : k = 0 := by simpa using hk
      subst this
      refine .agg rfl fun i hi => ?_
      match i, hi with
      | 0, _ => exact .sc rfl
      | 1, _ => exact .sc rfl
    · rintro e w' ⟨j', q1, q2, q3, q4⟩
      cases e with
      | returned v =>
        have hv : VR j' w' (.agg (layL hi lo)) v := q4
        cases hv with | agg h1 h2 =>
        rename_i X
        refine ⟨⟨X, rfl, by rw [h1]; simp [layL], fun j hj => ?_⟩, ⟨q2.os, q2.tape, q2.output, q2.size, fun B hB => (q2.keep B hB (J.none_has B)).1⟩⟩
        have hX : j < X.size := by rw [h1]; simpa [layL] using hj
        have := h2 j (by simpa [layL] using hj)
        simp only [layL, List.getElem_map, List.getElem_range] at this
        have hs := VR_sc this
        rw [Array.getElem?_eq_getElem hX]
        simpa [Array.getD, hX] using hs
      | panicked ch => exact q4.elim
      | outgrown => exact q4.elim
where VR_sc {j : J} {w : World} {u v : Value} (h : VR j w (.sc u) v) : v = u := by cases h; rfl
end Go.Proofs.YtgfjodldjaojhaaGreatDoor
