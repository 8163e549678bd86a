/- (MatchOrders) Order and Same of entries as plain functions on lists, and that Order is an order (no condition but that lists are shorter than 2^63). -/
import Derived.Test.YtgfjodldjaojhaaGreatDoorPMorx5
namespace Go.Proofs.YtgfjodldjaojhaaGreatDoor.PMor
open Go.RowKit Go.Proofs.YtgfjodldjaojhaaGreatDoorW.PrintWords Go.Proofs.YtgfjodldjaojhaaGreatDoorW.PrintLast Go.Proofs.YtgfjodldjaojhaaGreatDoorW.PrintMore
set_option linter.all false

def cI (x y : Int) : Int := if x < y then -1 else if y < x then 1 else 0
def oL : List Int → Int
  | [] => 0
  | z :: l => if z = 0 then oL l else z

theorem compare_int (a b : Int) : cmp_Compare_int.f a b = some (cI a b) := by
  unfold cmp_Compare_int.f cmp_isNaN_int.f cI
  simp only [bne_self_eq_false, Option.bind_some, Bool.false_eq_true, if_false]
  split <;> simp_all
  split <;> simp_all
theorem compare_u64 (a b : Int) : cmp_Compare_uint64.f a b = some (cI a b) := by
  unfold cmp_Compare_uint64.f cmp_isNaN_uint64.f cI
  simp only [bne_self_eq_false, Option.bind_some, Bool.false_eq_true, if_false]
  split <;> simp_all
  split <;> simp_all
theorem or2 (k : Nat) (a b : Int) : cmp_Or_int.f (k + 4) [a, b] = some (oL [a, b]) := by
  have w1 : wrap64 (0 + 1) = 1 := by unfold wrap64; omega
  have w2 : wrap64 (1 + 1) = 2 := by unfold wrap64; omega
  unfold cmp_Or_int.f
  simp only [cmp_Or_int.l0, rd, oL, List.length_cons, List.length_nil, w1, w2]
  by_cases ha : a = 0 <;> by_cases hb : b = 0 <;> simp [ha, hb, cmp_Or_int.l0, rd, w1, w2]
theorem or3 (k : Nat) (a b c : Int) : cmp_Or_int.f (k + 4) [a, b, c] = some (oL [a, b, c]) := by
  have w1 : wrap64 (0 + 1) = 1 := by unfold wrap64; omega
  have w2 : wrap64 (1 + 1) = 2 := by unfold wrap64; omega
  have w3 : wrap64 (2 + 1) = 3 := by unfold wrap64; omega
  unfold cmp_Or_int.f
  simp only [cmp_Or_int.l0, rd, oL, List.length_cons, List.length_nil, w1, w2, w3]
  by_cases ha : a = 0 <;> by_cases hb : b = 0 <;> by_cases hc : c = 0 <;> simp [ha, hb, hc, cmp_Or_int.l0, rd, w1, w2, w3]

/-! ## Orders -/
structure Law {α : Type} (c : α → α → Int) : Prop where
  three : ∀ x y, c x y = -1 ∨ c x y = 0 ∨ c x y = 1
  anti : ∀ x y, c y x = - c x y
  trans : ∀ x y z, c x y ≤ 0 → c y z ≤ 0 → c x z ≤ 0 ∧ (c x z = 0 → c x y = 0 ∧ c y z = 0)
theorem law_int : Law cI where
  three := fun x y => by unfold cI; split <;> (try split) <;> simp
  anti := fun x y => by unfold cI; split <;> split <;> (try split) <;> (try split) <;> omega
  trans := fun x y z => by unfold cI; split <;> split <;> (try split) <;> (try split) <;> (try split) <;> (try split) <;> omega
theorem Law.pull {α β : Type} {c : α → α → Int} (h : Law c) (f : β → α) : Law (fun x y => c (f x) (f y)) :=
  ⟨fun x y => h.three _ _, fun x y => h.anti _ _, fun x y z => h.trans _ _ _⟩
theorem Law.flip {α : Type} {c : α → α → Int} (h : Law c) : Law (fun x y => c y x) where
  three := fun x y => h.three _ _
  anti := fun x y => h.anti _ _
  trans := fun x y z h1 h2 => by
    obtain ⟨a, b⟩ := h.trans z y x h2 h1
    exact ⟨a, fun e => ⟨(b e).2, (b e).1⟩⟩
theorem Law.or {α : Type} {c d : α → α → Int} (h : Law c) (k : Law d) : Law (fun x y => if c x y = 0 then d x y else c x y) where
  three := fun x y => by
    split
    · exact k.three x y
    · exact h.three x y
  anti := fun x y => by
    have h1 := h.anti x y
    have h2 := k.anti x y
    by_cases e : c x y = 0
    · have e' : c y x = 0 := by omega
      rw [if_pos e, if_pos e']; exact h2
    · have e' : ¬ c y x = 0 := by omega
      rw [if_neg e, if_neg e']; exact h1
  trans := fun x y z => by
    have t1 := h.three x y
    have t2 := h.three y z
    have t3 := h.three x z
    have u := h.trans x y z
    have v := k.trans x y z
    by_cases e1 : c x y = 0 <;> by_cases e2 : c y z = 0
    · have e3 : c x z = 0 := by
        have := (u (by omega) (by omega)).1
        have u' := h.trans z y x
        have a1 := h.anti x y
        have a2 := h.anti y z
        have a3 := h.anti x z
        have := (u' (by omega) (by omega)).1
        omega
      rw [if_pos e1, if_pos e2, if_pos e3]; exact v
    all_goals
      intro p q
      simp only [e1, e2, if_true, if_false] at p q
      first
        | (have w := u (by omega) (by omega)
           have e3 : ¬ c x z = 0 := fun h => by have := w.2 h; omega
           rw [if_neg e3]
           exact ⟨w.1, fun h => absurd h e3⟩)

/-- Matches. -/
def cB (x y : S74) : Int := oL [cI x.f0 y.f0, cI x.f1 y.f1]
def cM (x y : S76) : Int := oL [cI y.f2 x.f2, cB x.f0 y.f0, cB x.f1 y.f1]
theorem oL_two (a b : Int) : oL [a, b] = if a = 0 then b else a := by simp only [oL]; split <;> (try split) <;> omega
theorem oL_three (a b c : Int) : oL [a, b, c] = if a = 0 then (if b = 0 then c else b) else a := by simp only [oL]; split <;> (try split) <;> (try split) <;> omega
theorem law_B : Law cB := by
  have := Law.or (law_int.pull (fun x : S74 => x.f0)) (law_int.pull (fun x : S74 => x.f1))
  have e : cB = fun x y => if cI x.f0 y.f0 = 0 then cI x.f1 y.f1 else cI x.f0 y.f0 := by funext x y; exact oL_two _ _
  rw [e]; exact this
theorem law_M : Law cM := by
  have := Law.or (law_int.flip.pull (fun x : S76 => x.f2)) (Law.or (law_B.pull (fun x : S76 => x.f0)) (law_B.pull (fun x : S76 => x.f1)))
  have e : cM = fun x y => if cI y.f2 x.f2 = 0 then (if cB x.f0 y.f0 = 0 then cB x.f1 y.f1 else cB x.f0 y.f0) else cI y.f2 x.f2 := by funext x y; exact oL_three _ _ _
  rw [e]; exact this
/-- Lists of matches. -/
def cL : List S76 → List S76 → Int
  | [], [] => 0
  | [], _ :: _ => -1
  | _ :: _, [] => 1
  | x :: xs, y :: ys => if cM x y = 0 then cL xs ys else cM x y
theorem law_L : Law cL where
  three := by
    intro x
    induction x with
    | nil => intro y; cases y <;> simp [cL]
    | cons x xs ih =>
      intro y
      cases y with
      | nil => simp [cL]
      | cons y ys => simp only [cL]; split; exact ih ys; exact law_M.three x y
  anti := by
    intro x
    induction x with
    | nil => intro y; cases y <;> simp [cL]
    | cons x xs ih =>
      intro y
      cases y with
      | nil => simp [cL]
      | cons y ys =>
        have a := law_M.anti x y
        simp only [cL]
        by_cases e : cM x y = 0
        · rw [if_pos e, if_pos (by omega)]; exact ih ys
        · rw [if_neg e, if_neg (by omega)]; exact a
  trans := by
    intro x
    induction x with
    | nil => intro y z; cases y <;> cases z <;> simp [cL]
    | cons x xs ih =>
      intro y z
      cases y with
      | nil => cases z <;> simp [cL]
      | cons y ys =>
        cases z with
        | nil => simp [cL]
        | cons z zs =>
          have i := ih ys zs
          simp only [cL]
          have t1 := law_M.three x y
          have t2 := law_M.three y z
          have t3 := law_M.three x z
          have u := law_M.trans x y z
          by_cases e1 : cM x y = 0 <;> by_cases e2 : cM y z = 0
          · have e3 : cM x z = 0 := by
              have := (u (by omega) (by omega)).1
              have u' := law_M.trans z y x
              have a1 := law_M.anti x y
              have a2 := law_M.anti y z
              have a3 := law_M.anti x z
              have := (u' (by omega) (by omega)).1
              omega
            rw [if_pos e1, if_pos e2, if_pos e3]; exact i
          all_goals
            intro p q
            simp only [e1, e2, if_true, if_false] at p q
            have w := u (by omega) (by omega)
            have e3 : ¬ cM x z = 0 := fun h => by have := w.2 h; omega
            rw [if_neg e3]
            exact ⟨w.1, fun h => absurd h e3⟩
theorem cI_zero (x y : Int) : cI x y = 0 ↔ x = y := by unfold cI; split <;> (try split) <;> omega
theorem cB_zero (x y : S74) : cB x y = 0 ↔ x = y := by
  obtain ⟨a, b⟩ := x; obtain ⟨c, d⟩ := y
  unfold cB; rw [oL_two]
  have h1 := cI_zero a c
  have h2 := cI_zero b d
  simp only [S74.mk.injEq]
  split
  · rename_i e; rw [h2]; exact ⟨fun h => ⟨h1.1 e, h⟩, fun h => h.2⟩
  · rename_i e; exact ⟨fun h => absurd h e, fun h => absurd (h1.2 h.1) e⟩
theorem cM_zero (x y : S76) : cM x y = 0 ↔ x = y := by
  obtain ⟨a, b, c⟩ := x; obtain ⟨a', b', c'⟩ := y
  unfold cM; rw [oL_three]
  have h1 := cB_zero a a'
  have h2 := cB_zero b b'
  have h3 := cI_zero c' c
  simp only [S76.mk.injEq]
  split
  · rename_i e
    split
    · rename_i e2; rw [h2]; exact ⟨fun h => ⟨h1.1 e2, h, (h3.1 e).symm⟩, fun h => h.2.1⟩
    · rename_i e2; exact ⟨fun h => absurd h e2, fun h => absurd (h1.2 h.1) e2⟩
  · rename_i e; exact ⟨fun h => absurd h e, fun h => absurd (h3.2 h.2.2.symm) e⟩
theorem cL_zero : ∀ (x y : List S76), cL x y = 0 ↔ x = y := by
  intro x
  induction x with
  | nil => intro y; cases y <;> simp [cL]
  | cons x xs ih =>
    intro y
    cases y with
    | nil => simp [cL]
    | cons y ys =>
      have h1 := cM_zero x y
      simp only [cL, List.cons.injEq]
      split
      · rename_i e; rw [ih ys]; exact ⟨fun h => ⟨h1.1 e, h⟩, fun h => h.2⟩
      · rename_i e; exact ⟨fun h => absurd h e, fun h => absurd (h1.2 h.1) e⟩

/-! ## What the printed functions compute -/
theorem order_c1 (k : Nat) (x y : S76) : match_Order_c1.f (k + 4) x.f0.f0 x.f0.f1 x.f1.f0 x.f1.f1 x.f2 y.f0.f0 y.f0.f1 y.f1.f0 y.f1.f1 y.f2 = some (cM x y) := by
  unfold match_Order_c1.f match_compare.f
  simp only [compare_int, compare_u64, Option.bind_some, or2, or3]
  rfl
theorem wrap_step {i : Nat} (h : i + 1 ≤ 9223372036854775807) : wrap64 ((i : Int) + 1) = ((i + 1 : Nat) : Int) := by
  unfold wrap64; omega
theorem rd76 {l : List S76} {i : Nat} (h : i < l.length) : rd_T76 l (i : Int) = l[i] := by
  unfold rd_T76; simp [h]
theorem comp81 (l0 l1 : List S76) (hn : l0.length ≤ 9223372036854775807) : ∀ (d i k : Nat), l0.length - i = d → i ≤ l0.length → i ≤ l1.length → d + 5 ≤ k →
    api_Match_81.l0 k l0 l1 l0 (l0.length : Int) (i : Int) = some (cL (l0.drop i) (l1.drop i)) := by
  intro d
  induction d with
  | zero =>
    intro i k hd h0 h1 hk
    obtain ⟨k, rfl⟩ : ∃ m, k = m + 1 := ⟨k - 1, by omega⟩
    have : i = l0.length := by omega
    simp only [api_Match_81.l0]
    rw [if_neg (by omega), this, List.drop_length]
    by_cases e : l0.length < l1.length
    · rw [if_pos (by omega), List.drop_eq_getElem_cons e]; rfl
    · rw [if_neg (by omega), List.drop_eq_nil_of_le (by omega)]; rfl
  | succ d ih =>
    intro i k hd h0 h1 hk
    obtain ⟨k, rfl⟩ : ∃ m, k = m + 1 := ⟨k - 1, by omega⟩
    have hi : i < l0.length := by omega
    simp only [api_Match_81.l0]
    rw [if_pos (by omega), if_pos (by omega), if_pos (by omega)]
    rw [List.drop_eq_getElem_cons hi]
    by_cases e : i < l1.length
    · rw [if_neg (by omega), if_pos (by omega), List.drop_eq_getElem_cons e, rd76 hi, rd76 e]
      obtain ⟨k4, hk4⟩ : ∃ m, k = m + 4 := ⟨k - 4, by omega⟩
      have := order_c1 k4 l0[i] l1[i]
      rw [← hk4] at this
      rw [this]
      simp only [Option.bind_some, cL]
      split
      · rw [wrap_step (by omega)]
        exact ih (i + 1) k (by omega) (by omega) (by omega) (by omega)
      · rfl
    · rw [if_pos (by omega), show l1.drop i = [] from List.drop_eq_nil_of_le (by omega)]; rfl

/-- Order, as the program has it. -/
def cE (l0 : List S76) (p0 : Int) (l1 : List S76) (p1 : Int) : Int := oL [cI p1 p0, cL l0 l1]
theorem order_is (l0 : List S76) (p0 : Int) (s0 : ByteArray) (c0 : List S74) (l1 : List S76) (p1 : Int) (s1 : ByteArray) (c1 : List S74) (hn : l0.length ≤ 9223372036854775807) :
    match_Order.f (l0.length + 5) l0 p0 s0 c0 l1 p1 s1 c1 = some (cE l0 p0 l1 p1) := by
  unfold match_Order.f
  have h1 := comp81 l0 l1 hn l0.length 0 (l0.length + 5) (by omega) (by omega) (by omega) (by omega)
  have h2 := or2 (l0.length + 1) (cI p1 p0) (cL l0 l1)
  simp only [compare_int, Option.bind_some, api_Match_81.f]
  have h1' : api_Match_81.l0 (l0.length + 5) l0 l1 l0 (l0.length : Int) 0 = some (cL l0 l1) := h1
  rw [h1']
  simp only [Option.bind_some]
  rw [show l0.length + 5 = l0.length + 1 + 4 from rfl, h2]; rfl
theorem law_E : Law (fun x y : List S76 × Int => cE x.1 x.2 y.1 y.2) := by
  have := Law.or (law_int.flip.pull (fun x : List S76 × Int => x.2)) (law_L.pull (fun x : List S76 × Int => x.1))
  have e : (fun x y : List S76 × Int => cE x.1 x.2 y.1 y.2) = fun x y => if cI y.2 x.2 = 0 then cL x.1 y.1 else cI y.2 x.2 := by funext x y; exact oL_two _ _
  rw [e]; exact this

/-- Same, as the program has it. -/
theorem equal78 (l0 l1 : List S76) (hn : l0.length ≤ 9223372036854775807) (hl : l0.length = l1.length) : ∀ (d i k : Nat), l0.length - i = d → i ≤ l0.length → d + 1 ≤ k →
    ∃ b, api_Match_78.l0 k l0 l1 (l0.length : Int) (i : Int) = some b ∧ (b = true ↔ l0.drop i = l1.drop i) := by
  intro d
  induction d with
  | zero =>
    intro i k hd h0 hk
    obtain ⟨k, rfl⟩ : ∃ m, k = m + 1 := ⟨k - 1, by omega⟩
    have : i = l0.length := by omega
    refine ⟨true, ?_, ?_⟩
    · simp only [api_Match_78.l0]; rw [if_neg (by omega)]
    · rw [this, List.drop_length, hl, List.drop_length]; simp
  | succ d ih =>
    intro i k hd h0 hk
    obtain ⟨k, rfl⟩ : ∃ m, k = m + 1 := ⟨k - 1, by omega⟩
    have hi : i < l0.length := by omega
    have hi1 : i < l1.length := by omega
    simp only [api_Match_78.l0]
    rw [if_pos (by omega), if_pos (by omega), if_pos (by omega), if_pos (by omega), rd76 hi, rd76 hi1, List.drop_eq_getElem_cons hi, List.drop_eq_getElem_cons hi1]
    generalize l0[i] = x at *
    generalize l1[i] = y at *
    obtain ⟨⟨a, b⟩, ⟨c, e⟩, g⟩ := x
    obtain ⟨⟨a', b'⟩, ⟨c', e'⟩, g'⟩ := y
    by_cases he : (⟨⟨a, b⟩, ⟨c, e⟩, g⟩ : S76) = ⟨⟨a', b'⟩, ⟨c', e'⟩, g'⟩
    · simp only [S76.mk.injEq, S74.mk.injEq] at he
      obtain ⟨⟨rfl, rfl⟩, ⟨rfl, rfl⟩, rfl⟩ := he
      rw [if_neg (by simp), wrap_step (by omega)]
      obtain ⟨r, h1, h2⟩ := ih (i + 1) k (by omega) (by omega) (by omega)
      exact ⟨r, h1, by simp [h2]⟩
    · refine ⟨false, ?_, ⟨(fun h => by cases h), fun h => absurd (List.cons.inj h).1 he⟩⟩
      rw [if_pos]
      simp only [S76.mk.injEq, S74.mk.injEq] at he
      simp
      omega
theorem same_is (l0 : List S76) (p0 : Int) (s0 : ByteArray) (c0 : List S74) (l1 : List S76) (p1 : Int) (s1 : ByteArray) (c1 : List S74) (hn : l0.length ≤ 9223372036854775807) :
    match_Same.f (l0.length + 1) l0 p0 s0 c0 l1 p1 s1 c1 = some (decide (cE l0 p0 l1 p1 = 0)) := by
  unfold match_Same.f api_Match_78.f cE
  rw [oL_two]
  by_cases hp : p0 = p1
  · rw [if_pos hp, if_pos ((cI_zero _ _).2 hp.symm)]
    by_cases hl : l0.length = l1.length
    · rw [if_pos (by omega)]
      obtain ⟨b, h1, h2⟩ := equal78 l0 l1 hn hl l0.length 0 (l0.length + 1) (by omega) (by omega) (by omega)
      have h1' : api_Match_78.l0 (l0.length + 1) l0 l1 (l0.length : Int) 0 = some b := h1
      rw [h1']
      simp only [List.drop_zero] at h2
      simp only [Option.bind_some, Option.some.injEq]
      cases b with
      | true => exact (decide_eq_true ((cL_zero _ _).2 (h2.1 rfl))).symm
      | false => exact (decide_eq_false fun h => by have := h2.2 ((cL_zero _ _).1 h); cases this).symm
    · rw [if_neg (by omega)]
      simp only [Option.bind_some, Option.some.injEq]
      exact (decide_eq_false fun h => hl (by rw [(cL_zero _ _).1 h])).symm
  · rw [if_neg hp]
    have hc : ¬ cI p1 p0 = 0 := fun h => hp ((cI_zero _ _).1 h).symm
    rw [if_neg hc]
    simp only [Option.some.injEq]
    exact (decide_eq_false hc).symm

/-! ## Bits -/
theorem bitX_eq {x : Int} {i : Nat} (h0 : 0 ≤ x) (h1 : x < 18446744073709551616) (hi : i < 64) : bitX x i = x.toNat.testBit i := by
  obtain ⟨n, rfl⟩ : ∃ n : Nat, x = n := ⟨x.toNat, by omega⟩
  have hn : n < 18446744073709551616 := by omega
  have hm : min i 64 = i := by omega
  have hf : (n : Int).fdiv (2 ^ i) = ((n / 2 ^ i : Nat) : Int) := by
    rw [Int.fdiv_eq_ediv_of_nonneg _ (by exact Int.pow_nonneg (by omega))]
    push_cast; rfl
  unfold bitX
  rw [hm, hf, Nat.testBit_eq_decide_div_mod_eq]
  have hlt : n / 2 ^ i < 2 ^ 64 := Nat.lt_of_le_of_lt (Nat.div_le_self _ _) (by simpa using hn)
  have hb : (BitVec.ofInt 64 ((n / 2 ^ i : Nat) : Int) &&& BitVec.ofInt 64 1).toNat = (n / 2 ^ i) % 2 := by
    rw [BitVec.toNat_and]
    have e1 : (BitVec.ofInt 64 ((n / 2 ^ i : Nat) : Int)).toNat = n / 2 ^ i := by
      rw [BitVec.toNat_ofInt]
      rw [Int.emod_eq_of_lt (by exact Int.natCast_nonneg _) (by exact_mod_cast hlt)]
      exact Int.toNat_natCast _
    have e2 : (BitVec.ofInt 64 1).toNat = 1 := by rfl
    rw [e1, e2]
    exact Nat.and_one_is_mod _
  rw [hb, Int.toNat_natCast]
  have h2 : (n / 2 ^ i) % 2 < 2 := Nat.mod_lt _ (by omega)
  have hw : IntKind.u64.wrap (((n / 2 ^ i) % 2 : Nat) : Int) = (((n / 2 ^ i) % 2 : Nat) : Int) := by
    rcases (show (n / 2 ^ i) % 2 = 0 ∨ (n / 2 ^ i) % 2 = 1 by omega) with h | h <;> rw [h] <;> decide
  rw [hw]
  rcases (show (n / 2 ^ i) % 2 = 0 ∨ (n / 2 ^ i) % 2 = 1 by omega) with h | h <;> rw [h] <;> decide

def cN (X Y : Nat) : Int := if X < Y then -1 else if Y < X then 1 else 0
theorem word (f g : Nat → Bool) (X Y : Nat) : ∀ (d i : Nat), X / 2 ^ d = Y / 2 ^ d → (∀ j, j < d → f (i + j) = X.testBit (d - 1 - j) ∧ g (i + j) = Y.testBit (d - 1 - j)) → cmpFrom f g d i = cN X Y := by
  intro d
  induction d with
  | zero =>
    intro i h _
    simp at h
    unfold cN cmpFrom; rw [h]; simp
  | succ d ih =>
    intro i h hb
    obtain ⟨b1, b2⟩ := hb 0 (by omega)
    have e : d + 1 - 1 - 0 = d := by omega
    rw [e, Nat.add_zero] at b1 b2
    rw [Nat.testBit_eq_decide_div_mod_eq] at b1 b2
    have hX : X / 2 ^ (d + 1) = X / 2 ^ d / 2 := by rw [Nat.pow_succ, Nat.div_div_eq_div_mul]
    have hY : Y / 2 ^ (d + 1) = Y / 2 ^ d / 2 := by rw [Nat.pow_succ, Nat.div_div_eq_div_mul]
    rw [hX, hY] at h
    simp only [cmpFrom]
    by_cases hfg : f i = g i
    · rw [if_pos hfg]
      refine ih (i + 1) ?_ fun j hj => ?_
      · rw [b1, b2] at hfg
        have := decide_eq_decide.1 hfg
        omega
      · have := hb (j + 1) (by omega)
        have e1 : i + (j + 1) = i + 1 + j := by omega
        have e2 : d + 1 - 1 - (j + 1) = d - 1 - j := by omega
        rw [e1, e2] at this; exact this
    · rw [if_neg hfg]
      by_cases hg : g i = true
      · rw [if_pos hg]
        have hf : f i = false := by cases hh : f i with | true => rw [hh, hg] at hfg; exact absurd rfl hfg | false => rfl
        rw [b2] at hg; rw [b1] at hf
        have h1 := of_decide_eq_true hg
        have h2 := of_decide_eq_false hf
        have hlt : X / 2 ^ d < Y / 2 ^ d := by omega
        have : X < Y := Nat.lt_of_not_le fun hle => by have := Nat.div_le_div_right (c := 2 ^ d) hle; omega
        unfold cN; rw [if_pos this]
      · rw [if_neg hg]
        have hg' : g i = false := by simpa using hg
        have hf : f i = true := by cases hh : f i with | true => rfl | false => rw [hh, hg'] at hfg; exact absurd rfl hfg
        rw [b2] at hg'; rw [b1] at hf
        have h1 := of_decide_eq_true hf
        have h2 := of_decide_eq_false hg'
        have hlt : Y / 2 ^ d < X / 2 ^ d := by omega
        have : Y < X := Nat.lt_of_not_le fun hle => by have := Nat.div_le_div_right (c := 2 ^ d) hle; omega
        unfold cN; rw [if_neg (by omega), if_pos this]
theorem cmpFrom_add (f g : Nat → Bool) : ∀ (n m i : Nat), cmpFrom f g (n + m) i = if cmpFrom f g n i = 0 then cmpFrom f g m (i + n) else cmpFrom f g n i := by
  intro n
  induction n with
  | zero => intro m i; simp [cmpFrom]
  | succ n ih =>
    intro m i
    rw [show n + 1 + m = n + m + 1 by omega]
    have s1 : cmpFrom f g (n + m + 1) i = if f i = g i then cmpFrom f g (n + m) (i + 1) else if g i = true then -1 else 1 := rfl
    have s2 : cmpFrom f g (n + 1) i = if f i = g i then cmpFrom f g n (i + 1) else if g i = true then -1 else 1 := rfl
    by_cases h : f i = g i
    · rw [if_pos h] at s1 s2
      rw [s1, s2, ih m (i + 1), show i + 1 + n = i + (n + 1) by omega]
    · rw [if_neg h] at s1 s2
      rw [s1, s2]
      cases g i <;> simp
structure W74 (x : S74) : Prop where
  a : 0 ≤ x.f0
  b : x.f0 < 18446744073709551616
  c : 0 ≤ x.f1
  d : x.f1 < 18446744073709551616
structure W76 (x : S76) : Prop where
  v : W74 x.f0
  m : W74 x.f1
theorem cN_cI {x y : Int} (hx : 0 ≤ x) (hy : 0 ≤ y) : cN x.toNat y.toNat = cI x y := by
  unfold cN cI
  by_cases h : x < y
  · rw [if_pos h, if_pos (by omega)]
  · rw [if_neg h, if_neg (by omega)]
    by_cases k : y < x
    · rw [if_pos k, if_pos (by omega)]
    · rw [if_neg k, if_neg (by omega)]
theorem bits_cB {x y : S74} (hx : W74 x) (hy : W74 y) : cmpFrom (layB x.f0 x.f1) (layB y.f0 y.f1) 128 0 = cB x y := by
  have p64 : (2 : Nat) ^ 64 = 18446744073709551616 := by decide
  have z : ∀ {n : Int}, 0 ≤ n → n < 18446744073709551616 → n.toNat / 2 ^ 64 = 0 := fun h0 h1 => Nat.div_eq_of_lt (by rw [p64]; omega)
  have h1 : cmpFrom (layB x.f0 x.f1) (layB y.f0 y.f1) 64 0 = cI x.f0 y.f0 := by
    rw [← cN_cI hx.a hy.a]
    refine word _ _ _ _ 64 0 (by rw [z hx.a hx.b, z hy.a hy.b]) fun j hj => ?_
    unfold layB
    rw [if_pos (by omega), if_pos (by omega), bitX_eq hx.a hx.b (by omega), bitX_eq hy.a hy.b (by omega)]
    have : 63 - (0 + j) = 64 - 1 - j := by omega
    rw [this]; exact ⟨rfl, rfl⟩
  have h2 : cmpFrom (layB x.f0 x.f1) (layB y.f0 y.f1) 64 64 = cI x.f1 y.f1 := by
    rw [← cN_cI hx.c hy.c]
    refine word _ _ _ _ 64 64 (by rw [z hx.c hx.d, z hy.c hy.d]) fun j hj => ?_
    unfold layB
    rw [if_neg (by omega), if_neg (by omega), bitX_eq hx.c hx.d (by omega), bitX_eq hy.c hy.d (by omega)]
    have : 127 - (64 + j) = 64 - 1 - j := by omega
    rw [this]; exact ⟨rfl, rfl⟩
  have := cmpFrom_add (layB x.f0 x.f1) (layB y.f0 y.f1) 64 64 0
  rw [h1, h2] at this
  rw [show (128 : Nat) = 64 + 64 from rfl, this]
  unfold cB; rw [oL_two]
end Go.Proofs.YtgfjodldjaojhaaGreatDoor.PMor
