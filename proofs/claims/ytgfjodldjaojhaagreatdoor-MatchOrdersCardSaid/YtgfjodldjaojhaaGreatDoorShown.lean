/- What every law of the seat begins with: the call of shown answers true in any world in which the two package variables lie as they are laid. -/
import Derived.Test.YtgfjodldjaojhaaGreatDoorRuns
import Derived.Test.YtgfjodldjaojhaaGreatDoorRows
import Derived.Lib.LaidTab
import Derived.Lib.LaidU8
import Derived.Shelf.Vars
import Derived.LaidMore
import Derived.WideFn
import Derived.LoneHanded
import Derived.CallAlone
import Derived.Handed
import Derived.MakeChecks
namespace Go.Proofs.YtgfjodldjaojhaaGreatDoor
open Go.Eng Go.RowKit
set_option linter.all false
set_option maxRecDepth 100000
def GH : IHeap := ⟨.leaf, 0, gOf lg⟩

theorem shown_run : ∃ H', ev SS13 14 [] GH = some (.ret (.sc (.bool true)), H') := by
  have h := run13
  unfold Memo.shows at h
  simp only [Bool.and_eq_true] at h
  obtain ⟨⟨⟨⟨⟨h, _⟩, _⟩, _⟩, _⟩, _⟩ := h
  have e : ev SS13 mm13.g mm13.xs ⟨hOf mm13.l0 .leaf, mm13.N, gOf lg⟩ = ev SS13 14 [] GH := rfl
  rw [e] at h
  cases hr : ev SS13 14 [] GH with
  | none => rw [hr] at h; cases h
  | some r =>
    obtain ⟨r, H'⟩ := r
    rw [hr] at h
    simp only [Bool.and_eq_true] at h
    have := reqs_ok h.1.1
    refine ⟨H', ?_⟩
    rw [← this]; rfl

theorem shown_calls {w : World} (h : Sim J.none GH w) : Calls PP 14 #[] w fun e w' => e = .returned (.bool true) ∧ Below w.heap.size w w' := by
  obtain ⟨H', hr⟩ := shown_run
  obtain ⟨_, _, hc⟩ := ev_ok SS13_ok _ _ _ _ _ hr
  refine (hc J.none w #[] h ⟨rfl, fun k hk => by simp at hk⟩).mono ?_
  rintro e w' ⟨j', q1, q2, q3, q4⟩
  cases e with
  | returned v =>
    have hv : VR j' w' (.sc (.bool true)) v := q4
    cases hv
    exact ⟨rfl, ⟨q2.os, q2.tape, q2.output, q2.size, fun B hB => (q2.keep B hB (J.none_has B)).1⟩⟩
  | panicked ch => exact q4.elim
  | outgrown => exact q4.elim

theorem heap_of_cell {w : World} {b o : Nat} {v : Value} (h : w.cell? ⟨b, o, none⟩ = some v) : b < w.heap.size := by
  rcases Nat.lt_or_ge b w.heap.size with h' | h'
  · exact h'
  · have : w.heap[b]? = none := Array.getElem?_eq_none h'
    simp [World.cell?, this] at h

/-- The two variables, out of the row's condition and the world's shape. -/
theorem vars_sim {W : World} (hL : laidMet PP Rows.matchNumbersRow.laid W) (hsh : W.ShapedOpen PP) : Sim J.none GH W := by
  have ht : ∀ i, i < tab64.length → W.cell? ⟨7, i, none⟩ = some (.int .u8 (tab64.getD i 0)) := by
    have hm : ("math/bits.deBruijn64tab", (Lib.tabData .u8 tab64 : DataW Unit)) ∈ Rows.matchNumbersRow.laid := List.mem_cons_of_mem _ (List.mem_cons_self ..)
    obtain ⟨g, t, cs, fuel, p, hg, hty, hvar, hd⟩ := Lib.laidMet.reads hL hm
    obtain rfl := Option.some.inj ((show PP.globalNamed "math/bits.deBruijn64tab" = some 7 by kernel_rfl).symm.trans hg)
    obtain rfl := Option.some.inj ((show (PP.globals[7]?).map (·.type) = some 513 by kernel_rfl).symm.trans hty)
    have hcs := Lib.cells_of_tab (k := .u8) (zs := tab64) Tryz.underlying513 Tryz.underlying5 (by kernel_rfl) (by kernel_rfl) hd
    have hca : cs = (tab64.map fun z => Value.int .u8 z).toArray := by rw [← hcs]
    rw [hca] at hvar
    intro i hi
    have := World.var?_cell (show PP.globalNamed "math/bits.deBruijn64tab" = some 7 by kernel_rfl) hvar i
    simpa [List.getD, hi] using this
  obtain ⟨m, hmax⟩ := cell_of_shapedOpen_int (P := PP) (g := 0) (t := 3) (zero := #[.int .i64 0]) hsh (of_decide_eq_true (by kernel_rfl)) (by kernel_rfl) rfl (by kernel_rfl) (by kernel_rfl) Tryz.underlying3
  constructor
  · intro b o B d h; simp [GH, IHeap.get, Trie.get] at h
  · intro b1 b2 o1 o2 B d1 d2 h; simp [GH, IHeap.get, Trie.get] at h
  · intro b _; rfl
  · intro b B d h; simp [J.none] at h
  · intro g cs h
    have hm := gOf_get (show (gOf lg).get g = some cs from h)
    simp only [lg, List.mem_cons, Prod.mk.injEq, List.mem_nil_iff, or_false] at hm
    rcases hm with ⟨rfl, rfl⟩ | ⟨rfl, rfl⟩
    · refine .fp (fun k => .int .u8 (tab64.getD k 0)) (J.none_has _) (heap_of_cell (ht 0 (by decide))) (fun k hk => ?_) (fun k hk => ?_)
      · rw [Nat.zero_add]; exact ht k (by simpa using hk)
      · have hk' : k < tab64.length := by simpa using hk
        simp only [List.getElem_map]
        have : tab64.getD k 0 = tab64[k] := by simp [List.getD, hk']
        rw [this]
        exact .sc rfl
    · refine .fp (fun _ => .int .i64 m) (J.none_has _) (heap_of_cell hmax) (fun k hk => ?_) (fun k hk => ?_)
      · have : k = 0 := by simpa using hk
        subst this; exact hmax
      · have : k = 0 := by simpa using hk
        subst this; exact .anyi
end Go.Proofs.YtgfjodldjaojhaaGreatDoor
