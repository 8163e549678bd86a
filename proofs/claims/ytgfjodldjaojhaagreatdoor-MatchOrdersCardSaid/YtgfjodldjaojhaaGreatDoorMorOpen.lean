/- (MatchOrders) A list of entries that can be read as data is a list of the walk, fit for the law (no condition). -/
import Derived.Test.YtgfjodldjaojhaaGreatDoorMorLaw
import Derived.ChangeArms
import Derived.Deep.Slices
import Derived.DataReads
import Derived.DataElems
import Derived.WideShapes
namespace Go.Proofs.YtgfjodldjaojhaaGreatDoor.PMor
open Go Go.RowKit Go.WideShapes
open Go.Proofs.YtgfjodldjaojhaaGreatDoorW.PrintWords
set_option linter.all false
set_option maxRecDepth 100000
theorem cells72 : PP.cellsOf 72 = 1 := by kernel_rfl
theorem cells3 : PP.cellsOf 3 = 1 := by kernel_rfl
theorem cells74 : PP.cellsOf 74 = 2 := by kernel_rfl
theorem cells76 : PP.cellsOf 76 = 5 := by kernel_rfl
theorem cells34 : PP.cellsOf 34 = 1 := by kernel_rfl
theorem cells37 : PP.cellsOf 37 = 2 := by kernel_rfl
theorem cells39 : PP.cellsOf 39 = 4 := by kernel_rfl
section
variable {H : Type} {enc : TypeId × Value → H} {w : World} {base : Nat} {spare : Nat → Bool} {held : Bool}

theorem exists_list {α : Type} {n : Nat} {Q : Nat → α → Prop} (h : ∀ i, i < n → ∃ x, Q i x) : ∃ l : List α, l.length = n ∧ ∀ j p, l[j]? = some p → Q j p := by
  induction n with
  | zero => exact ⟨[], rfl, fun j p hp => by simp at hp⟩
  | succ n ih =>
    obtain ⟨l, h1, h2⟩ := ih fun i hi => h i (by omega)
    obtain ⟨x, hx⟩ := h n (by omega)
    refine ⟨l ++ [x], by simp [h1], fun j p hp => ?_⟩
    by_cases hj : j < l.length
    · rw [List.getElem?_append_left hj] at hp; exact h2 j p hp
    · rw [List.getElem?_append_right (by omega)] at hp
      have hz : j - l.length = 0 := by
        rcases Nat.eq_zero_or_pos (j - l.length) with h0 | h0
        · exact h0
        · rw [List.getElem?_eq_none (by simp; omega)] at hp; cases hp
      rw [hz] at hp
      simp at hp
      have : j = n := by omega
      subst this; subst hp; exact hx

theorem wf_u64 {n : Int} (h : (Lit.int .u64 n).wf = true) : 0 ≤ n ∧ n < 18446744073709551616 := by
  simp [Lit.wf, IntKind.min, IntKind.max, IntKind.signed, IntKind.bits] at h
  omega
theorem read74 {fuel : Nat} {cs : List Value} {x : DataW H × List MemPlace} (h : DataW.trod enc PP w base spare held fuel 74 cs = some x) : ∃ y : S74, cs = [.int .u64 y.f0, .int .u64 y.f1] ∧ W74 y := by
  obtain ⟨xs, n, _, _, hl, hxl, hg⟩ := DataW.trod_struct Tryz.underlying74 h
  rw [cells74] at hl
  have hxl : xs.length = 2 := hxl
  match cs, hl, hg with
  | [c0, c1], _, hg =>
    have g0 : DataW.trod enc PP w base spare held n 72 (List.take (PP.cellsOf 72) (List.drop 0 [c0, c1])) = xs[0]? := hg 0 _ rfl
    have g1 : DataW.trod enc PP w base spare held n 72 (List.take (PP.cellsOf 72) (List.drop 1 [c0, c1])) = xs[1]? := hg 1 _ rfl
    rw [cells72] at g0 g1
    dsimp only [List.drop, List.take] at g0 g1
    rw [List.getElem?_eq_getElem (by omega)] at g0 g1
    obtain ⟨a, ha, _, wa⟩ := DataW.trod_int Tryz.underlying72 g0
    obtain ⟨b, hb, _, wb⟩ := DataW.trod_int Tryz.underlying72 g1
    injection ha with ha; injection hb with hb
    obtain ⟨a0, a1⟩ := wf_u64 wa
    obtain ⟨b0, b1⟩ := wf_u64 wb
    exact ⟨⟨a, b⟩, by rw [ha, hb], ⟨a0, a1, b0, b1⟩⟩
theorem read76 {fuel : Nat} {cs : List Value} {x : DataW H × List MemPlace} (h : DataW.trod enc PP w base spare held fuel 76 cs = some x) :
    ∃ y : S76, cs = [.int .u64 y.f0.f0, .int .u64 y.f0.f1, .int .u64 y.f1.f0, .int .u64 y.f1.f1, .int .i64 y.f2] ∧ W76 y := by
  obtain ⟨xs, n, _, _, hl, hxl, hg⟩ := DataW.trod_struct Tryz.underlying76 h
  rw [cells76] at hl
  have hxl : xs.length = 3 := hxl
  match cs, hl, hg with
  | [c0, c1, c2, c3, c4], _, hg =>
    have g0 : DataW.trod enc PP w base spare held n 74 (List.take (PP.cellsOf 74) (List.drop 0 [c0, c1, c2, c3, c4])) = xs[0]? := hg 0 _ rfl
    have g1 : DataW.trod enc PP w base spare held n 74 (List.take (PP.cellsOf 74) (List.drop 2 [c0, c1, c2, c3, c4])) = xs[1]? := hg 1 _ rfl
    have g2 : DataW.trod enc PP w base spare held n 3 (List.take (PP.cellsOf 3) (List.drop 4 [c0, c1, c2, c3, c4])) = xs[2]? := hg 2 _ rfl
    rw [cells74] at g0 g1
    rw [cells3] at g2
    dsimp only [List.drop, List.take] at g0 g1 g2
    rw [List.getElem?_eq_getElem (by omega)] at g0 g1 g2
    obtain ⟨a, ha, wa⟩ := read74 g0
    obtain ⟨b, hb, wb⟩ := read74 g1
    obtain ⟨c, hc, _⟩ := DataW.trod_int Tryz.underlying3 g2
    injection ha with ha ha'; injection ha' with ha' _
    injection hb with hb hb'; injection hb' with hb' _
    injection hc with hc
    exact ⟨⟨a, b, c⟩, by rw [ha, ha', hb, hb', hc], ⟨wa, wb⟩⟩

theorem row_of {α : Type} {d : Kd α} {t e : TypeId} {v : Value} {fuel : Nat} {x : DataW H × List MemPlace} (ht : PP.underlying t = some (.slice e)) (hsz : PP.cellsOf e = d.sz)
    {R : α → Prop} (hread : ∀ {n cs x}, DataW.trod enc PP w base spare held n e cs = some x → ∃ y : α, d.K w y cs ∧ R y) (h : DataW.trod enc PP w base spare held fuel t [v] = some x) :
    ∃ (A : Option Addr) (l : List α) (c : Nat), v = .slice A l.length c ∧ Kd.C d w A l.length l ∧ l.length ≤ c ∧ l.length ≤ 9223372036854775807 ∧ ∀ y ∈ l, R y := by
  rcases Deep.open_slice ht h with ⟨hv, _⟩ | ⟨a, len, cap, m, n, D, Pl, hv, hb, hl, hm, hmm, _, hel⟩
  · injection hv with hv
    exact ⟨none, [], 0, hv, ⟨rfl, by simp, fun h => by simp at h⟩, by simp, by simp, fun y hy => by cases hy⟩
  · injection hv with hv
    have hcap : cap ≤ 9223372036854775807 := hm
    have hlm : len ≤ m := by rw [hmm]; split <;> omega
    obtain ⟨l, h1, h2⟩ := exists_list (n := len) (Q := fun i (y : α) => ∃ cs, w.cells? base (a.add (i * PP.cellsOf e)) (PP.cellsOf e) = some cs ∧ d.K w y cs ∧ R y) fun i hi => by
      obtain ⟨cs, k1, k2⟩ := hel i (by omega)
      obtain ⟨y, hy⟩ := hread k2
      exact ⟨y, cs, k1, hy⟩
    refine ⟨some a, l, cap, by rw [h1]; exact hv, ⟨rfl, by omega, fun _ => ⟨a, rfl, fun j p hp => ?_⟩⟩, by omega, by omega, fun y hy => ?_⟩
    · obtain ⟨cs, k1, k2, _⟩ := h2 j p hp
      obtain ⟨_, m1, m2⟩ := World.cells?_some k1
      refine ⟨cs, by rw [m1, hsz], k2, fun i u hu => ?_⟩
      have hi : i < cs.length := (List.getElem?_eq_some_iff.1 hu).1
      have := m2 i (by omega)
      rw [Addr.add_add, hu, hsz] at this
      exact this
    · obtain ⟨j, hj, rfl⟩ := List.getElem_of_mem hy
      obtain ⟨_, _, _, q⟩ := h2 j _ (List.getElem?_eq_getElem hj)
      exact q

def FitE (x : S39) : Prop := x.f0.length ≤ 9223372036854775807 ∧ ∀ y ∈ x.f0, W76 y
theorem read39 {fuel : Nat} {cs : List Value} {x : DataW H × List MemPlace} (h : DataW.trod enc PP w base spare held fuel 39 cs = some x) : ∃ y : S39, k39.K w y cs ∧ FitE y := by
  obtain ⟨xs, n, _, _, hl, hxl, hg⟩ := DataW.trod_struct Tryz.underlying39 h
  have hxl : xs.length = 3 := hxl
  rw [cells39] at hl
  match cs, hl, hg with
  | [c0, c1, c2, c3], _, hg =>
    have g0 : DataW.trod enc PP w base spare held n 34 (List.take (PP.cellsOf 34) (List.drop 0 [c0, c1, c2, c3])) = xs[0]? := hg 0 _ rfl
    have g1 : DataW.trod enc PP w base spare held n 3 (List.take (PP.cellsOf 3) (List.drop 1 [c0, c1, c2, c3])) = xs[1]? := hg 1 _ rfl
    have g2 : DataW.trod enc PP w base spare held n 37 (List.take (PP.cellsOf 37) (List.drop 2 [c0, c1, c2, c3])) = xs[2]? := hg 2 _ rfl
    rw [cells34] at g0
    rw [cells3] at g1
    rw [cells37] at g2
    dsimp only [List.drop, List.take] at g0 g1 g2
    rw [List.getElem?_eq_getElem (by omega)] at g0 g1 g2
    obtain ⟨A, l, cA, rfl, r0, k0, n0, wl⟩ := row_of (d := k76) (R := W76) Tryz.underlying34 cells76 (fun h => by
      obtain ⟨y, rfl, wy⟩ := read76 h
      exact ⟨y, k76_mk w y, wy⟩) g0
    obtain ⟨q, hq, _⟩ := DataW.trod_int Tryz.underlying3 g1
    injection hq with hq; subst hq
    obtain ⟨ys, n2, _, _, hl2, hyl, hg2⟩ := DataW.trod_struct Tryz.underlying37 g2
    have f0 : DataW.trod enc PP w base spare held n2 9 (List.take (PP.cellsOf 9) (List.drop 0 [c2, c3])) = ys[0]? := hg2 0 _ rfl
    have f1 : DataW.trod enc PP w base spare held n2 35 (List.take (PP.cellsOf 35) (List.drop 1 [c2, c3])) = ys[1]? := hg2 1 _ rfl
    have hyl : ys.length = 2 := hyl
    have c9 : PP.cellsOf 9 = 1 := by kernel_rfl
    have c36 : PP.cellsOf 35 = 1 := by kernel_rfl
    rw [c9] at f0
    rw [c36] at f1
    dsimp only [List.drop, List.take] at f0 f1
    rw [List.getElem?_eq_getElem (by omega)] at f0 f1
    obtain ⟨s, hs, _⟩ := DataW.trod_string Tryz.underlying9 f0
    injection hs with hs; subst hs
    obtain ⟨C, m, cC, rfl, r1, k1, n1, _⟩ := row_of (d := k74) (R := fun _ => True) Tryz.underlying35 cells74 (fun h => by
      obtain ⟨y, rfl, _⟩ := read74 h
      exact ⟨y, k74_mk w y, trivial⟩) f1
    exact ⟨⟨l, q, ⟨s, m⟩⟩, k39_mk w ⟨l, q, ⟨s, m⟩⟩ k0 r0 k1 r1, n0, wl⟩
theorem open_list {v : Value} {d : DataW H} {p : List MemPlace} {b0 : Nat} (hv : Value.okWide PP w .any b0 31 v) (h : DataW.Trod enc PP w base spare held 31 v d p) :
    ∃ (A : Option Addr) (l : List S39) (c : Nat), v = .slice A l.length c ∧ Kd.C k39 w A l.length l ∧ l.length ≤ c ∧ ∀ y ∈ l, FitE y := by
  obtain ⟨a, n, m, rfl⟩ := okWide_slice Tryz.underlying31 hv
  obtain ⟨fuel, hf⟩ := h
  obtain ⟨A, l, c, h1, h2, h3, _, h5⟩ := row_of (d := k39) (R := FitE) Tryz.underlying31 cells39 read39 hf
  exact ⟨A, l, c, h1, h2, h3, h5⟩
end
end Go.Proofs.YtgfjodldjaojhaaGreatDoor.PMor
