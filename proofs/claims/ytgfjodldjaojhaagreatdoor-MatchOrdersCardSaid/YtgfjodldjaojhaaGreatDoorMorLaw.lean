/- (MatchOrders) The reference's Order and Same of entries as plain functions, and the law: f answers true at enough rounds (condition: integers of matches are words, lists are shorter than 2^63). -/
import Derived.Test.YtgfjodldjaojhaaGreatDoorMorPure
import Derived.Test.YtgfjodldjaojhaaGreatDoorPMorx6
namespace Go.Proofs.YtgfjodldjaojhaaGreatDoor.PMor
open Go.RowKit Go.Proofs.YtgfjodldjaojhaaGreatDoorW.PrintWords Go.Proofs.YtgfjodldjaojhaaGreatDoorW.PrintLast Go.Proofs.YtgfjodldjaojhaaGreatDoorW.PrintMore
set_option linter.all false
theorem compare_is {x y : S74} (hx : W74 x) (hy : W74 y) : turnoutref01_Compare.f x.f0 x.f1 y.f0 y.f1 = some (cB x y) := by
  unfold turnoutref01_Compare.f; rw [bits_cB hx hy]
theorem ord26 (l0 : List S76) (p0 : Int) (s0 : ByteArray) (c0 : List S74) (l1 : List S76) (p1 : Int) (s1 : ByteArray) (c1 : List S74) (hn : l0.length ≤ 9223372036854775807)
    (h0 : ∀ x ∈ l0, W76 x) (h1 : ∀ x ∈ l1, W76 x) : ∀ (d i k : Nat), l0.length - i = d → i ≤ l0.length → i ≤ l1.length → 2 * d + 2 ≤ k →
    turnoutref11_Order.l0 k (i : Int) l0 p0 s0 c0 l1 p1 s1 c1 = some (cL (l0.drop i) (l1.drop i)) := by
  intro d
  induction d with
  | zero =>
    intro i k hd a0 a1 hk
    obtain ⟨k, rfl⟩ : ∃ m, k = m + 2 := ⟨k - 2, by omega⟩
    have : i = l0.length := by omega
    simp only [turnoutref11_Order.l0, turnoutref11_Order.j1]
    rw [if_neg (by omega), if_neg (by simp), this, List.drop_length]
    by_cases e : l0.length < l1.length
    · rw [if_pos (by omega), List.drop_eq_getElem_cons e]; rfl
    · rw [if_neg (by omega), if_neg (by omega), List.drop_eq_nil_of_le (by omega)]; rfl
  | succ d ih =>
    intro i k hd a0 a1 hk
    obtain ⟨k, rfl⟩ : ∃ m, k = m + 2 := ⟨k - 2, by omega⟩
    have hi : i < l0.length := by omega
    simp only [turnoutref11_Order.l0, turnoutref11_Order.j1]
    rw [if_pos (by omega), List.drop_eq_getElem_cons hi]
    by_cases e : i < l1.length
    · rw [if_pos (decide_eq_true (by omega)), if_pos (by omega), if_pos (by omega), if_pos (by omega), List.drop_eq_getElem_cons e, rd76 hi, rd76 e]
      have wx := h0 _ (List.getElem_mem hi)
      have wy := h1 _ (List.getElem_mem e)
      rw [compare_is wx.v wy.v, compare_is wx.m wy.m]
      simp only [Option.bind_some, cL]
      have hrec := ih (i + 1) k (by omega) (by omega) (by omega) (by omega)
      rw [wrap_step (by omega), hrec]
      generalize l0[i] = x
      generalize l1[i] = y
      unfold cM; rw [oL_three]
      by_cases g : x.f2 = y.f2
      · have z : cI y.f2 x.f2 = 0 := (cI_zero _ _).2 g.symm
        rw [if_pos g, if_pos z]
        by_cases b1 : cB x.f0 y.f0 = 0
        · rw [if_pos b1, if_pos b1]
          by_cases b2 : cB x.f1 y.f1 = 0
          · rw [if_pos b2, if_pos b2]
          · rw [if_neg b2, if_neg b2]
        · rw [if_neg b1, if_neg b1, if_neg b1]
      · have z : ¬ cI y.f2 x.f2 = 0 := fun h => g ((cI_zero _ _).1 h).symm
        rw [if_neg g, if_neg z, if_neg z]
        unfold cI
        by_cases g2 : x.f2 > y.f2
        · rw [if_pos g2, if_pos (by omega)]
        · rw [if_neg g2, if_neg (by omega), if_pos (by omega)]
    · rw [if_neg (by rw [decide_eq_true_eq]; omega), if_neg (by omega), if_pos (by omega), show l1.drop i = [] from List.drop_eq_nil_of_le (by omega)]; rfl
theorem ref_order_is (k : Nat) (l0 : List S76) (p0 : Int) (s0 : ByteArray) (c0 : List S74) (l1 : List S76) (p1 : Int) (s1 : ByteArray) (c1 : List S74) (hn : l0.length ≤ 9223372036854775807)
    (h0 : ∀ x ∈ l0, W76 x) (h1 : ∀ x ∈ l1, W76 x) (hk : 2 * l0.length + 2 ≤ k) : turnoutref11_Order.f k l0 p0 s0 c0 l1 p1 s1 c1 = some (cE l0 p0 l1 p1) := by
  unfold turnoutref11_Order.f cE
  rw [oL_two]
  have h := ord26 l0 p0 s0 c0 l1 p1 s1 c1 hn h0 h1 l0.length 0 k (by omega) (by omega) (by omega) hk
  have h' : turnoutref11_Order.l0 k 0 l0 p0 s0 c0 l1 p1 s1 c1 = some (cL l0 l1) := h
  rw [h']
  by_cases hp : p0 = p1
  · rw [if_pos hp, if_pos ((cI_zero _ _).2 hp.symm)]
  · rw [if_neg hp, if_neg (fun h => hp ((cI_zero _ _).1 h).symm)]
    unfold cI
    by_cases g2 : p0 > p1
    · rw [if_pos g2, if_pos (by omega)]
    · rw [if_neg g2, if_neg (by omega), if_pos (by omega)]
theorem same24 (l0 : List S76) (p0 : Int) (s0 : ByteArray) (c0 : List S74) (l1 : List S76) (p1 : Int) (s1 : ByteArray) (c1 : List S74) (hn : l0.length ≤ 9223372036854775807) (hl : l0.length = l1.length) : ∀ (d i k : Nat), l0.length - i = d → i ≤ l0.length → d + 1 ≤ k →
    ∃ b, turnoutref11_Same.l0 k (i : Int) l0 p0 s0 c0 l1 p1 s1 c1 = some b ∧ (b = true ↔ l0.drop i = l1.drop i) := by
  intro d
  induction d with
  | zero =>
    intro i k hd h0 hk
    obtain ⟨k, rfl⟩ : ∃ m, k = m + 1 := ⟨k - 1, by omega⟩
    have : i = l0.length := by omega
    refine ⟨true, ?_, ?_⟩
    · simp only [turnoutref11_Same.l0]; rw [if_neg (by omega)]
    · rw [this, List.drop_length, hl, List.drop_length]; simp
  | succ d ih =>
    intro i k hd h0 hk
    obtain ⟨k, rfl⟩ : ∃ m, k = m + 1 := ⟨k - 1, by omega⟩
    have hi : i < l0.length := by omega
    have hi1 : i < l1.length := by omega
    simp only [turnoutref11_Same.l0]
    rw [if_pos (by omega), if_pos (by omega), if_pos (by omega), rd76 hi, rd76 hi1, List.drop_eq_getElem_cons hi, List.drop_eq_getElem_cons hi1]
    generalize l0[i] = x at *
    generalize l1[i] = y at *
    obtain ⟨⟨a, b⟩, ⟨c, e⟩, g⟩ := x
    obtain ⟨⟨a', b'⟩, ⟨c', e'⟩, g'⟩ := y
    by_cases he : (⟨⟨a, b⟩, ⟨c, e⟩, g⟩ : S76) = ⟨⟨a', b'⟩, ⟨c', e'⟩, g'⟩
    · simp only [S76.mk.injEq, S74.mk.injEq] at he
      obtain ⟨⟨rfl, rfl⟩, ⟨rfl, rfl⟩, rfl⟩ := he
      rw [if_neg (by simp), wrap_step (by omega)]
      obtain ⟨r, h1, h2⟩ := ih (i + 1) k (by omega) (by omega) (by omega)
      exact ⟨r, h1, by simp [h2]⟩
    · refine ⟨false, ?_, ⟨(fun h => by cases h), fun h => absurd (List.cons.inj h).1 he⟩⟩
      rw [if_pos]
      simp only [S76.mk.injEq, S74.mk.injEq] at he
      simp
      omega
theorem ref_same_is (k : Nat) (l0 : List S76) (p0 : Int) (s0 : ByteArray) (c0 : List S74) (l1 : List S76) (p1 : Int) (s1 : ByteArray) (c1 : List S74) (hn : l0.length ≤ 9223372036854775807) (hk : l0.length + 2 ≤ k) :
    turnoutref11_Same.f k l0 p0 s0 c0 l1 p1 s1 c1 = some (decide (cE l0 p0 l1 p1 = 0)) := by
  obtain ⟨k, rfl⟩ : ∃ m, k = m + 1 := ⟨k - 1, by omega⟩
  unfold turnoutref11_Same.f cE
  rw [oL_two]
  simp only [turnoutref11_Same.j0]
  by_cases hp : p0 = p1
  · rw [if_pos hp, if_pos ((cI_zero _ _).2 hp.symm)]
    by_cases hl : l0.length = l1.length
    · rw [if_neg (by simp [hl])]
      obtain ⟨b, h1, h2⟩ := same24 l0 p0 s0 c0 l1 p1 s1 c1 hn hl l0.length 0 k (by omega) (by omega) (by omega)
      have h1' : turnoutref11_Same.l0 k 0 l0 p0 s0 c0 l1 p1 s1 c1 = some b := h1
      rw [h1']
      simp only [List.drop_zero] at h2
      simp only [Option.some.injEq]
      cases b with
      | true => exact (decide_eq_true ((cL_zero _ _).2 (h2.1 rfl))).symm
      | false => exact (decide_eq_false fun h => by have := h2.2 ((cL_zero _ _).1 h); cases this).symm
    · rw [if_pos (by simp; omega)]
      simp only [Option.some.injEq]
      exact (decide_eq_false fun h => hl (by rw [(cL_zero _ _).1 h])).symm
  · rw [if_neg hp]
    have hc : ¬ cI p1 p0 = 0 := fun h => hp ((cI_zero _ _).1 h).symm
    rw [if_neg hc, if_pos trivial]
    simp only [Option.some.injEq]
    exact (decide_eq_false hc).symm
theorem mono_up {α : Type} {f : Nat → Option α} (h : ∀ k, LeO (f k) (f (k + 1))) {a b : Nat} (hab : a ≤ b) {r : α} (ha : f a = some r) : f b = some r := by
  induction hab with
  | refl => exact ha
  | step _ ih => exact h _ _ ih
/-- Entries fit for the walk. -/
def Fit (M : Nat) (L : List S39) : Prop := ∀ x ∈ L, x.f0.length ≤ 9223372036854775807 ∧ 2 * x.f0.length + 10 ≤ M ∧ ∀ y ∈ x.f0, W76 y
theorem rd39 {l : List S39} {i : Nat} (h : i < l.length) : rd_T39 l (i : Int) = l[i] := by
  unfold rd_T39; simp [h]
theorem inner (M : Nat) (L : List S39) (hL : Fit M L) (i : Nat) (hi : i < L.length) (K0 : Nat) (hK : ∀ k, K0 ≤ k → turnoutlaw11_MatchOrders.l0 k L (wrap64 ((i : Int) + 1)) = some true) :
    ∀ (d j k : Nat), 64 - j = d → j ≤ 64 → 2 * d + 2 + M + K0 ≤ k → turnoutlaw11_MatchOrders.l1 k L (i : Int) (j : Int) = some true := by
  intro d
  induction d with
  | zero =>
    intro j k hd hj hk
    obtain ⟨k, rfl⟩ : ∃ m, k = m + 2 := ⟨k - 2, by omega⟩
    simp only [turnoutlaw11_MatchOrders.l1, turnoutlaw11_MatchOrders.j3]
    have e : ¬ ((j : Int) < 64) := by omega
    have := hK k (by omega)
    by_cases g : (j : Int) < (L.length : Int)
    · rw [if_pos g, if_neg (by simp; omega)]; exact this
    · rw [if_neg g, if_neg (by simp)]; exact this
  | succ d ih =>
    intro j k hd hj hk
    obtain ⟨k, rfl⟩ : ∃ m, k = m + 2 := ⟨k - 2, by omega⟩
    simp only [turnoutlaw11_MatchOrders.l1, turnoutlaw11_MatchOrders.j3]
    by_cases g : (j : Int) < (L.length : Int)
    · have hj' : j < L.length := by omega
      rw [if_pos g, if_pos (decide_eq_true (by omega)), if_pos (by omega), if_pos (by omega), if_pos (by omega), if_pos g, rd39 hi, rd39 hj']
      obtain ⟨x1, x2, x3⟩ := hL _ (List.getElem_mem hi)
      obtain ⟨y1, y2, y3⟩ := hL _ (List.getElem_mem hj')
      generalize L[i] = x at *
      generalize L[j] = y at *
      rw [mono_up (match_Same.mono _ _ _ _ _ _ _ _) (show x.f0.length + 1 ≤ k by omega) (same_is x.f0 x.f1 x.f2.f0 x.f2.f1 y.f0 y.f1 y.f2.f0 y.f2.f1 x1)]
      rw [ref_same_is k x.f0 x.f1 x.f2.f0 x.f2.f1 y.f0 y.f1 y.f2.f0 y.f2.f1 x1 (by omega)]
      rw [mono_up (match_Order.mono _ _ _ _ _ _ _ _) (show x.f0.length + 5 ≤ k by omega) (order_is x.f0 x.f1 x.f2.f0 x.f2.f1 y.f0 y.f1 y.f2.f0 y.f2.f1 x1)]
      rw [ref_order_is k x.f0 x.f1 x.f2.f0 x.f2.f1 y.f0 y.f1 y.f2.f0 y.f2.f1 x1 x3 y3 (by omega)]
      simp only [Option.bind_some]
      rw [if_neg (by simp), if_pos trivial, wrap_step (by omega)]
      exact ih (j + 1) k (by omega) (by omega) (by omega)
    · rw [if_neg g, if_neg (by simp)]; exact hK k (by omega)
theorem outer (M : Nat) (L : List S39) (hL : Fit M L) : ∀ (d i : Nat), 64 - i = d → i ≤ 64 → ∃ K, ∀ k, K ≤ k → turnoutlaw11_MatchOrders.l0 k L (i : Int) = some true := by
  intro d
  induction d with
  | zero =>
    intro i hd hi
    refine ⟨2, fun k hk => ?_⟩
    obtain ⟨k, rfl⟩ : ∃ m, k = m + 2 := ⟨k - 2, by omega⟩
    simp only [turnoutlaw11_MatchOrders.l0, turnoutlaw11_MatchOrders.j1]
    by_cases g : (i : Int) < (L.length : Int)
    · rw [if_pos g, if_neg (by simp; omega)]
    · rw [if_neg g, if_neg (by simp)]
  | succ d ih =>
    intro i hd hi
    obtain ⟨K0, hK⟩ := ih (i + 1) (by omega) (by omega)
    refine ⟨2 * 64 + 4 + M + K0, fun k hk => ?_⟩
    obtain ⟨k, rfl⟩ : ∃ m, k = m + 2 := ⟨k - 2, by omega⟩
    simp only [turnoutlaw11_MatchOrders.l0, turnoutlaw11_MatchOrders.j1]
    by_cases g : (i : Int) < (L.length : Int)
    · rw [if_pos g, if_pos (decide_eq_true (by omega))]
      exact inner M L hL i (by omega) K0 (fun k hk => by rw [wrap_step (by omega)]; exact hK k hk) 64 0 k (by omega) (by omega) (by omega)
    · rw [if_neg g, if_neg (by simp)]
theorem orders_true (M : Nat) (L : List S39) (hL : Fit M L) : ∃ k, turnoutlaw11_MatchOrders.f k L = some true := by
  obtain ⟨K, hK⟩ := outer M L hL 64 0 (by omega) (by omega)
  refine ⟨K, ?_⟩
  unfold turnoutlaw11_MatchOrders.f turnoutlaw11_shown.f
  simp only [Option.bind_some]
  rw [if_pos trivial]
  exact hK K (by omega)
theorem fit_ex (L : List S39) (h : ∀ x ∈ L, x.f0.length ≤ 9223372036854775807 ∧ ∀ y ∈ x.f0, W76 y) : ∃ M, Fit M L := by
  refine ⟨2 * 9223372036854775807 + 10, fun x hx => ⟨(h x hx).1, ?_, (h x hx).2⟩⟩
  have := (h x hx).1
  omega
end Go.Proofs.YtgfjodldjaojhaaGreatDoor.PMor
