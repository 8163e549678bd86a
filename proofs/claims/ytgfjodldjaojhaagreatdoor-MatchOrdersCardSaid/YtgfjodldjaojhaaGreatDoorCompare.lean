/- turnoutref01.Compare, walked: by the first bit that is not the same (no condition). -/
import Derived.Test.YtgfjodldjaojhaaGreatDoorLay
import Derived.Test.YtgfjodldjaojhaaGreatDoorWMore
import Derived.Laws.Tables
import Derived.Laws.Rows
import Derived.Lib.Hide
import Derived.Deep.QuietTactic
import Derived.BigQuiet
namespace Go.Proofs.YtgfjodldjaojhaaGreatDoor
open Go Go.RowKit Go.Eng
open Go.Proofs.YtgfjodldjaojhaaGreatDoorW.PrintWords Go.Proofs.YtgfjodldjaojhaaGreatDoorW.PrintLast Go.Proofs.YtgfjodldjaojhaaGreatDoorW.PrintMore
set_option linter.all false
set_option maxRecDepth 100000
structure Bits (X : Array Value) (f : Nat → Bool) : Prop where
  size : X.size = 128
  get : ∀ j, j < 128 → X[j]? = some (.bool (f j))
theorem Bits.all {X : Array Value} {f : Nat → Bool} (h : Bits X f) : X.all (·.oneCell') = true := by
  rw [Array.all_eq_true]
  intro i hi
  have := h.get i (by have := h.size; omega)
  rw [Array.getElem?_eq_getElem hi] at this
  injection this with this
  rw [this]; rfl
theorem info210 : (PP.info? 210).map (·.size) = some 128 := by kernel_rfl
theorem lay_bits (hi lo : Int) (w : World) : Calls PP 152 #[.agg #[.int .u64 hi, .int .u64 lo]] w fun e w' => (∃ X : Array Value, e = .returned (.agg X) ∧ Bits X (layB hi lo)) ∧ Below w.heap.size w w' :=
  (lay_calls hi lo w).mono fun e w' ⟨⟨X, h1, h2, h3⟩, h4⟩ => ⟨⟨X, h1, h2, h3⟩, h4⟩

/-- A whole array stored into a new block. -/
theorem stored {W w1 : World} {Z X : Array Value} (hb : Below W.heap.size W w1) :
    ∃ w2, (w1.alloc (.cells Z 210)).setRow w1.heap.size X = w2 ∧ Below W.heap.size W w2 ∧ w2.heap[w1.heap.size]? = some (.cells X 210 (0, 0)) := by
  refine ⟨_, rfl, ?_, setRow_heap _ _ _ _ _ _ (heap_alloc_new w1 _)⟩
  have h1 := below_alloc hb (.cells Z 210)
  refine ⟨h1.os, h1.tape, h1.output, ?_, fun B hB => ?_⟩
  · have := h1.size
    simpa [World.setRow] using this
  · have hne : w1.heap.size ≠ B := by have := hb.size; omega
    have : ((w1.alloc (.cells Z 210)).setRow w1.heap.size X).heap[B]? = (w1.alloc (.cells Z 210)).heap[B]? := by
      simp only [World.setRow, Array.getElem?_modify]
      rw [if_neg hne]
    rw [this]; exact h1.block B hB

/-- By the first bit that is not the same, from bit i on. -/
def cmpFrom (f g : Nat → Bool) : Nat → Nat → Int
  | 0, _ => 0
  | d + 1, i => if f i = g i then cmpFrom f g d (i + 1) else if g i = true then -1 else 1

theorem pair_cells {W : World} {g : Nat} {x y : Int} (h : W.heap[g]? = some (.cells #[.int .u64 x, .int .u64 y] 74 (0, 0))) :
    W.cell? ⟨g, 0, none⟩ = some (.int .u64 x) ∧ W.cell? ⟨g, 1, none⟩ = some (.int .u64 y) := ⟨(blk_cell h 0).trans rfl, (blk_cell h 1).trans rfl⟩

theorem ret_z {k : IntKind} {a b : Int} (h : a = b) : Ending.returned (.int k a) = .returned (.int k b) := by rw [h]
theorem cmpFrom_step (f g : Nat → Bool) {k : Nat} (h : k < 128) : cmpFrom f g (128 - k) k = if f k = g k then cmpFrom f g (128 - (k + 1)) (k + 1) else if g k = true then -1 else 1 := by
  obtain ⟨d, hd⟩ : ∃ d, 128 - k = d + 1 := ⟨127 - k, by omega⟩
  have : 128 - (k + 1) = d := by omega
  rw [hd, this]; rfl

set_option maxHeartbeats 400000 in
theorem compare_calls (a b c d : Int) (w : World) : Calls PP 84 #[.agg #[.int .u64 a, .int .u64 b], .agg #[.int .u64 c, .int .u64 d]] w fun e w' =>
    e = .returned (.int .i64 (cmpFrom (layB a b) (layB c d) 128 0)) ∧ Below w.heap.size w w' := by
  have HW : Hid (Below w.heap.size w ((w.alloc (.cells #[.int .u64 a, .int .u64 b] 74)).alloc (.cells #[.int .u64 c, .int .u64 d] 74))) := Lib.hid (below_alloc (below_alloc (Below.refl _ _) _) _)
  go_enter Tryz.func84, Tryz.ntmps84
  go_wp2_with (first
    | (go_at_call 152; (with_reducible refine (lay_bits a b _).mono ?_); rintro e w1 ⟨⟨X, rfl, HX⟩, hb⟩)
    | (go_at_call 152; (with_reducible refine (lay_bits c d _).mono ?_); rintro e w3 ⟨⟨Y, rfl, HY⟩, hb'⟩)
    | ((with_reducible refine gate_store (t := 210) (p := 5) rfl ?_); refine wpList_store_row rfl 210 (.tmp 5) (.tmp 9) rfl _ X rfl rfl 210 _ (heap_alloc_new _ _) (by rw [HX.size]; exact info210) (by rw [HX.size]; kernel_rfl) HX.all ?_;
       obtain ⟨w2, hw2, hb2, hr2⟩ := stored (Z := Tryz.zeroCells210) (X := X) hb;
       rw [hw2]; clear hw2 hb;
       have hA := blk_below (blk_new (w.alloc (.cells #[.int .u64 a, .int .u64 b] 74)) (.cells #[.int .u64 c, .int .u64 d] 74)) hb2;
       obtain ⟨c0, c1⟩ := pair_cells (g := w.heap.size + 1) (by simpa using hA);
       have HB2 : Hid (Below w.heap.size w w2) := Lib.hid (below_step HW.out hb2); have HR2 := Lib.hid hr2;
       clear hA hb2 hr2)
    | ((with_reducible refine gate_store (t := 210) (p := 6) rfl ?_); refine wpList_store_row rfl 210 (.tmp 6) (.tmp 11) rfl _ Y rfl rfl 210 _ (heap_alloc_new _ _) (by rw [HY.size]; exact info210) (by rw [HY.size]; kernel_rfl) HY.all ?_;
       obtain ⟨w4, hw4, hb4, hr4⟩ := stored (Z := Tryz.zeroCells210) (X := Y) hb';
       rw [hw4]; clear hw4 hb' c0 c1;
       have HB4 : Hid (Below w.heap.size w w4) := Lib.hid (below_step HB2.out hb4);
       have HR4 := Lib.hid hr4;
       have HRX : Hid (w4.heap[w1.heap.size]? = some (.cells X 210 (0, 0))) := Lib.hid (blk_below HR2.out hb4);
       clear hb4 hr4 HR2 HB2 HW))
  go_loopw [7] (fun i wr => ∃ k : Nat, k ≤ 128 ∧ i = .int .i64 k ∧ Hid (cmpFrom (layB a b) (layB c d) 128 0 = cmpFrom (layB a b) (layB c d) (128 - k) k) ∧ ∃ n, wr = w4.drewN n) (fun i _ => 128 - (intOf i).toNat)
  case atStart => exact ⟨0, by omega, rfl, Lib.hid rfl, 0, rfl⟩
  case round =>
    obtain ⟨k, hk, rfl, HC, n, rfl⟩ := hrel
    by_cases hlt : k < 128
    · have hx : w4.cell? ⟨w1.heap.size, k, none⟩ = some (.bool (layB a b k)) := (cell_of_row w4 _ k X 210 (0, 0) HRX.out).trans (HX.get k hlt)
      have hy : w4.cell? ⟨w3.heap.size, k, none⟩ = some (.bool (layB c d k)) := (cell_of_row w4 _ k Y 210 (0, 0) HR4.out).trans (HY.get k hlt)
      have hs := cmpFrom_step (layB a b) (layB c d) hlt
      have HS := Lib.hid hs
      clear hs
      generalize layB a b k = p at *
      generalize layB c d k = q at *
      cases p <;> cases q
      case false.false =>
        go_wp2
        repeat (go_quiet (fail); try go_wp2)
        exact ⟨⟨k + 1, by omega, by go_num, Lib.hid (HC.out.trans (HS.out.trans (by simp))), _, rfl⟩, by simp [intOf]; omega⟩
      case true.true =>
        go_wp2
        repeat (go_quiet (fail); try go_wp2)
        exact ⟨⟨k + 1, by omega, by go_num, Lib.hid (HC.out.trans (HS.out.trans (by simp))), _, rfl⟩, by simp [intOf]; omega⟩
      case false.true =>
        go_wp2
        repeat (go_quiet (fail); try go_wp2)
        go_ret
        exact ⟨ret_z (HC.out.trans (HS.out.trans (by simp : _ = (-1 : Int)))).symm, pw_below_drewN HB4.out _⟩
      case true.false =>
        go_wp2
        repeat (go_quiet (fail); try go_wp2)
        go_ret
        exact ⟨ret_z (HC.out.trans (HS.out.trans (by simp : _ = (1 : Int)))).symm, pw_below_drewN HB4.out _⟩
    · have hk' : k = 128 := by omega
      subst hk'
      have HE : Hid (cmpFrom (layB a b) (layB c d) (128 - 128) 128 = 0) := Lib.hid rfl
      go_wp2
      go_ret
      exact ⟨ret_z (HC.out.trans HE.out).symm, pw_below_drewN HB4.out _⟩
end Go.Proofs.YtgfjodldjaojhaaGreatDoor
