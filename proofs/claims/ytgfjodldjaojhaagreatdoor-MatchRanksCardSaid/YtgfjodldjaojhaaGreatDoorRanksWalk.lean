/- MatchRanks, walked: for any three entries that can be read it returns true (no condition). -/
import Derived.Test.YtgfjodldjaojhaaGreatDoorOrdPure
import Derived.Test.YtgfjodldjaojhaaGreatDoorShown
namespace Go.Proofs.YtgfjodldjaojhaaGreatDoor
open Go Go.RowKit Go.Eng POrd
open Go.Proofs.YtgfjodldjaojhaaGreatDoorW.PrintWords Go.Proofs.YtgfjodldjaojhaaGreatDoorW.PrintLast Go.Proofs.YtgfjodldjaojhaaGreatDoorW.PrintMore
set_option linter.all false
set_option maxRecDepth 100000

structure Ent where
  A : Option Addr
  cA : Nat
  l : List S76
  p : Int
  s : ByteArray
  C : Option Addr
  cC : Nat
  m : List S74
structure Ent.Ok (x : Ent) (w : World) : Prop where
  r0 : Kd.C k76 w x.A x.l.length x.l
  c0 : x.l.length ≤ x.cA
  r1 : Kd.C k74 w x.C x.m.length x.m
  c1 : x.m.length ≤ x.cC
  n : x.l.length ≤ 9223372036854775807
theorem Ent.Ok.below {x : Ent} {w w' : World} (h : x.Ok w) (hb : Below w.heap.size w w') : x.Ok w' := ⟨Kd.C_below h.r0 hb, h.c0, Kd.C_below h.r1 hb, h.c1, h.n⟩
abbrev Ent.cs (x : Ent) : Array Value := #[.slice x.A x.l.length x.cA, .int .i64 x.p, .string x.s, .slice x.C x.m.length x.cC]
def Ent.cmp (x y : Ent) : Int := cE x.l x.p y.l y.p

theorem order_calls {x y : Ent} {w : World} (hx : x.Ok w) (hy : y.Ok w) :
    Calls PP 25 #[.agg #[.slice x.A x.l.length x.cA, .int .i64 x.p, .string x.s, .slice x.C x.m.length x.cC], .agg #[.slice y.A y.l.length y.cA, .int .i64 y.p, .string y.s, .slice y.C y.m.length y.cC]] w
      fun e w' => e = .returned (.int .i64 (x.cmp y)) ∧ Below w.heap.size w w' :=
  match_Order.calls (x.l.length + 5) _ _ _ _ _ _ _ _ _ _ _ _ _ _ _ _ _ _ hx.r0 hx.c0 hx.r1 hx.c1 hy.r0 hy.c0 hy.r1 hy.c1 (order_is _ _ _ _ _ _ _ _ hx.n)
theorem same_calls {x y : Ent} {w : World} (hx : x.Ok w) (hy : y.Ok w) :
    Calls PP 23 #[.agg #[.slice x.A x.l.length x.cA, .int .i64 x.p, .string x.s, .slice x.C x.m.length x.cC], .agg #[.slice y.A y.l.length y.cA, .int .i64 y.p, .string y.s, .slice y.C y.m.length y.cC]] w
      fun e w' => e = .returned (.bool (decide (x.cmp y = 0))) ∧ Below w.heap.size w w' :=
  match_Same.calls (x.l.length + 1) _ _ _ _ _ _ _ _ _ _ _ _ _ _ _ _ _ _ hx.r0 hx.c0 hx.r1 hx.c1 hy.r0 hy.c0 hy.r1 hy.c1 (same_is _ _ _ _ _ _ _ _ hx.n)

/-- What the walk knows of the world: the three boxes. -/
structure Boxes (a b c : Ent) (g : Nat) (W : World) : Prop where
  oa : a.Ok W
  ob : b.Ok W
  oc : c.Ok W
  ha : W.heap[g]? = some (.cells a.cs 39 (0, 0))
  hb : W.heap[g + 1]? = some (.cells b.cs 39 (0, 0))
  hc : W.heap[g + 1 + 1]? = some (.cells c.cs 39 (0, 0))
theorem Boxes.below {a b c : Ent} {g : Nat} {W w' : World} (h : Boxes a b c g W) (hb : Below W.heap.size W w') : Boxes a b c g w' :=
  ⟨h.oa.below hb, h.ob.below hb, h.oc.below hb, blk_below h.ha hb, blk_below h.hb hb, blk_below h.hc hb⟩

theorem box_cells {x : Ent} {W : World} {g : Nat} (h : W.heap[g]? = some (.cells x.cs 39 (0, 0))) :
    (W.cell? ⟨g, 0, none⟩ = some (.slice x.A x.l.length x.cA) ∧ W.cell? ⟨g, 1, none⟩ = some (.int .i64 x.p) ∧ W.cell? ⟨g, 2, none⟩ = some (.string x.s) ∧ W.cell? ⟨g, 3, none⟩ = some (.slice x.C x.m.length x.cC)) :=
  ⟨(blk_cell h 0).trans rfl, (blk_cell h 1).trans rfl, (blk_cell h 2).trans rfl, (blk_cell h 3).trans rfl⟩

theorem boxes_first (a b c : Ent) (w : World) (ha : a.Ok w) (hb : b.Ok w) (hc : c.Ok w) : Boxes a b c w.heap.size (((w.alloc (.cells a.cs 39)).alloc (.cells b.cs 39)).alloc (.cells c.cs 39)) := by
  have h1 : Below w.heap.size w (w.alloc (.cells a.cs 39)) := below_alloc (Below.refl _ _) _
  have h2 := below_alloc h1 (.cells b.cs 39)
  have h3 := below_alloc h2 (.cells c.cs 39)
  refine ⟨ha.below h3, hb.below h3, hc.below h3, ?_, ?_, ?_⟩
  · exact blk_below (blk_below (blk_new w _) (below_alloc (Below.refl _ _) _)) (below_alloc (Below.refl _ _) _)
  · have e : w.heap.size + 1 = (w.alloc (.cells a.cs 39)).heap.size := by simp
    rw [e]; exact blk_below (blk_new _ _) (below_alloc (Below.refl _ _) _)
  · have e : w.heap.size + 1 + 1 = ((w.alloc (.cells a.cs 39)).alloc (.cells b.cs 39)).heap.size := by simp
    rw [e]; exact blk_new _ _

set_option maxHeartbeats 4000000 in
theorem ranks_mmm (a b c : Ent) (w : World) (hG : Sim J.none GH w) (ha : a.Ok w) (hb : b.Ok w) (hc : c.Ok w)
    (hx : Aside0 (a.cmp b = -1)) (hy : Aside0 (b.cmp c = -1)) (hz : Aside0 (a.cmp c = -1)) (hn : Aside0 (b.cmp a = 1)) (hs : Aside0 (decide (a.cmp b = 0) = false)) (hr : Aside0 (a.cmp a = 0)) :
    Calls PP 8 #[.agg #[.slice a.A a.l.length a.cA, .int .i64 a.p, .string a.s, .slice a.C a.m.length a.cC], .agg #[.slice b.A b.l.length b.cA, .int .i64 b.p, .string b.s, .slice b.C b.m.length b.cC], .agg #[.slice c.A c.l.length c.cA, .int .i64 c.p, .string c.s, .slice c.C c.m.length c.cC]] w
      fun e w' => e = .returned (.bool true) ∧ Below w.heap.size w w' := by
  have hX0 := boxes_first a b c w ha hb hc
  have hD0 : Below w.heap.size w (((w.alloc (.cells a.cs 39)).alloc (.cells b.cs 39)).alloc (.cells c.cs 39)) := below_alloc (below_alloc (below_alloc (Below.refl _ _) _) _) _
  have HX0 := Aside0.mk hX0
  have HD0 := Aside0.mk hD0
  clear ha hb hc hX0 hD0
  go_enter Tryz.func8, Tryz.ntmps8
  go_wp2_with fail
  refine Calls.mono (shown_calls (hG.below HD0.out)) ?_
  rintro e w1 ⟨rfl, hb1⟩
  have hX1 := HX0.out.below hb1
  have HD1 := Aside0.mk (below_step HD0.out hb1)
  clear hb1
  obtain ⟨ca0, ca1, ca2, ca3⟩ := box_cells hX1.ha
  obtain ⟨cb0, cb1, cb2, cb3⟩ := box_cells hX1.hb
  obtain ⟨cc0, cc1, cc2, cc3⟩ := box_cells hX1.hc
  have HX1 := Aside0.mk hX1
  clear hX1
  go_wp2_with fail
  refine Calls.mono (order_calls HX1.out.oa HX1.out.ob) ?_
  rintro e w2 ⟨rfl, hb2⟩
  rw [hx.out]
  have hX2 := HX1.out.below hb2
  have HD2 := Aside0.mk (below_step HD1.out hb2)
  clear hb2 ca0 ca1 ca2 ca3 cb0 cb1 cb2 cb3 cc0 cc1 cc2 cc3
  obtain ⟨ca0, ca1, ca2, ca3⟩ := box_cells hX2.ha
  obtain ⟨cb0, cb1, cb2, cb3⟩ := box_cells hX2.hb
  obtain ⟨cc0, cc1, cc2, cc3⟩ := box_cells hX2.hc
  have HX2 := Aside0.mk hX2
  clear hX2
  go_wp2_with fail
  refine Calls.mono (order_calls HX2.out.ob HX2.out.oc) ?_
  rintro e w3 ⟨rfl, hb3⟩
  rw [hy.out]
  have hX3 := HX2.out.below hb3
  have HD3 := Aside0.mk (below_step HD2.out hb3)
  clear hb3 ca0 ca1 ca2 ca3 cb0 cb1 cb2 cb3 cc0 cc1 cc2 cc3
  obtain ⟨ca0, ca1, ca2, ca3⟩ := box_cells hX3.ha
  obtain ⟨cb0, cb1, cb2, cb3⟩ := box_cells hX3.hb
  obtain ⟨cc0, cc1, cc2, cc3⟩ := box_cells hX3.hc
  have HX3 := Aside0.mk hX3
  clear hX3
  go_wp2_with fail
  refine Calls.mono (order_calls HX3.out.oa HX3.out.oc) ?_
  rintro e w4 ⟨rfl, hb4⟩
  rw [hz.out]
  have hX4 := HX3.out.below hb4
  have HD4 := Aside0.mk (below_step HD3.out hb4)
  clear hb4 ca0 ca1 ca2 ca3 cb0 cb1 cb2 cb3 cc0 cc1 cc2 cc3
  obtain ⟨ca0, ca1, ca2, ca3⟩ := box_cells hX4.ha
  obtain ⟨cb0, cb1, cb2, cb3⟩ := box_cells hX4.hb
  obtain ⟨cc0, cc1, cc2, cc3⟩ := box_cells hX4.hc
  have HX4 := Aside0.mk hX4
  clear hX4
  go_wp2_with fail
  refine Calls.mono (order_calls HX4.out.ob HX4.out.oa) ?_
  rintro e w5 ⟨rfl, hb5⟩
  rw [hn.out]
  have hX5 := HX4.out.below hb5
  have HD5 := Aside0.mk (below_step HD4.out hb5)
  clear hb5 ca0 ca1 ca2 ca3 cb0 cb1 cb2 cb3 cc0 cc1 cc2 cc3
  obtain ⟨ca0, ca1, ca2, ca3⟩ := box_cells hX5.ha
  obtain ⟨cb0, cb1, cb2, cb3⟩ := box_cells hX5.hb
  obtain ⟨cc0, cc1, cc2, cc3⟩ := box_cells hX5.hc
  have HX5 := Aside0.mk hX5
  clear hX5
  go_wp2_with fail
  refine Calls.mono (same_calls HX5.out.oa HX5.out.ob) ?_
  rintro e w6 ⟨rfl, hb6⟩
  rw [hs.out]
  have hX6 := HX5.out.below hb6
  have HD6 := Aside0.mk (below_step HD5.out hb6)
  clear hb6 ca0 ca1 ca2 ca3 cb0 cb1 cb2 cb3 cc0 cc1 cc2 cc3
  obtain ⟨ca0, ca1, ca2, ca3⟩ := box_cells hX6.ha
  obtain ⟨cb0, cb1, cb2, cb3⟩ := box_cells hX6.hb
  obtain ⟨cc0, cc1, cc2, cc3⟩ := box_cells hX6.hc
  have HX6 := Aside0.mk hX6
  clear hX6
  go_wp2_with fail
  refine Calls.mono (order_calls HX6.out.oa HX6.out.oa) ?_
  rintro e w7 ⟨rfl, hb7⟩
  rw [hr.out]
  have hX7 := HX6.out.below hb7
  have HD7 := Aside0.mk (below_step HD6.out hb7)
  clear hb7 ca0 ca1 ca2 ca3 cb0 cb1 cb2 cb3 cc0 cc1 cc2 cc3
  obtain ⟨ca0, ca1, ca2, ca3⟩ := box_cells hX7.ha
  obtain ⟨cb0, cb1, cb2, cb3⟩ := box_cells hX7.hb
  obtain ⟨cc0, cc1, cc2, cc3⟩ := box_cells hX7.hc
  have HX7 := Aside0.mk hX7
  clear hX7
  go_wp2_with fail
  go_ret
  exact ⟨rfl, HD7.out⟩
set_option maxHeartbeats 4000000 in
theorem ranks_mom (a b c : Ent) (w : World) (hG : Sim J.none GH w) (ha : a.Ok w) (hb : b.Ok w) (hc : c.Ok w)
    (hx : Aside0 (a.cmp b = -1)) (hy : Aside0 (b.cmp c = 0)) (hz : Aside0 (a.cmp c = -1)) (hn : Aside0 (b.cmp a = 1)) (hs : Aside0 (decide (a.cmp b = 0) = false)) (hr : Aside0 (a.cmp a = 0)) :
    Calls PP 8 #[.agg #[.slice a.A a.l.length a.cA, .int .i64 a.p, .string a.s, .slice a.C a.m.length a.cC], .agg #[.slice b.A b.l.length b.cA, .int .i64 b.p, .string b.s, .slice b.C b.m.length b.cC], .agg #[.slice c.A c.l.length c.cA, .int .i64 c.p, .string c.s, .slice c.C c.m.length c.cC]] w
      fun e w' => e = .returned (.bool true) ∧ Below w.heap.size w w' := by
  have hX0 := boxes_first a b c w ha hb hc
  have hD0 : Below w.heap.size w (((w.alloc (.cells a.cs 39)).alloc (.cells b.cs 39)).alloc (.cells c.cs 39)) := below_alloc (below_alloc (below_alloc (Below.refl _ _) _) _) _
  have HX0 := Aside0.mk hX0
  have HD0 := Aside0.mk hD0
  clear ha hb hc hX0 hD0
  go_enter Tryz.func8, Tryz.ntmps8
  go_wp2_with fail
  refine Calls.mono (shown_calls (hG.below HD0.out)) ?_
  rintro e w1 ⟨rfl, hb1⟩
  have hX1 := HX0.out.below hb1
  have HD1 := Aside0.mk (below_step HD0.out hb1)
  clear hb1
  obtain ⟨ca0, ca1, ca2, ca3⟩ := box_cells hX1.ha
  obtain ⟨cb0, cb1, cb2, cb3⟩ := box_cells hX1.hb
  obtain ⟨cc0, cc1, cc2, cc3⟩ := box_cells hX1.hc
  have HX1 := Aside0.mk hX1
  clear hX1
  go_wp2_with fail
  refine Calls.mono (order_calls HX1.out.oa HX1.out.ob) ?_
  rintro e w2 ⟨rfl, hb2⟩
  rw [hx.out]
  have hX2 := HX1.out.below hb2
  have HD2 := Aside0.mk (below_step HD1.out hb2)
  clear hb2 ca0 ca1 ca2 ca3 cb0 cb1 cb2 cb3 cc0 cc1 cc2 cc3
  obtain ⟨ca0, ca1, ca2, ca3⟩ := box_cells hX2.ha
  obtain ⟨cb0, cb1, cb2, cb3⟩ := box_cells hX2.hb
  obtain ⟨cc0, cc1, cc2, cc3⟩ := box_cells hX2.hc
  have HX2 := Aside0.mk hX2
  clear hX2
  go_wp2_with fail
  refine Calls.mono (order_calls HX2.out.ob HX2.out.oc) ?_
  rintro e w3 ⟨rfl, hb3⟩
  rw [hy.out]
  have hX3 := HX2.out.below hb3
  have HD3 := Aside0.mk (below_step HD2.out hb3)
  clear hb3 ca0 ca1 ca2 ca3 cb0 cb1 cb2 cb3 cc0 cc1 cc2 cc3
  obtain ⟨ca0, ca1, ca2, ca3⟩ := box_cells hX3.ha
  obtain ⟨cb0, cb1, cb2, cb3⟩ := box_cells hX3.hb
  obtain ⟨cc0, cc1, cc2, cc3⟩ := box_cells hX3.hc
  have HX3 := Aside0.mk hX3
  clear hX3
  go_wp2_with fail
  refine Calls.mono (order_calls HX3.out.oa HX3.out.oc) ?_
  rintro e w4 ⟨rfl, hb4⟩
  rw [hz.out]
  have hX4 := HX3.out.below hb4
  have HD4 := Aside0.mk (below_step HD3.out hb4)
  clear hb4 ca0 ca1 ca2 ca3 cb0 cb1 cb2 cb3 cc0 cc1 cc2 cc3
  obtain ⟨ca0, ca1, ca2, ca3⟩ := box_cells hX4.ha
  obtain ⟨cb0, cb1, cb2, cb3⟩ := box_cells hX4.hb
  obtain ⟨cc0, cc1, cc2, cc3⟩ := box_cells hX4.hc
  have HX4 := Aside0.mk hX4
  clear hX4
  go_wp2_with fail
  refine Calls.mono (order_calls HX4.out.ob HX4.out.oa) ?_
  rintro e w5 ⟨rfl, hb5⟩
  rw [hn.out]
  have hX5 := HX4.out.below hb5
  have HD5 := Aside0.mk (below_step HD4.out hb5)
  clear hb5 ca0 ca1 ca2 ca3 cb0 cb1 cb2 cb3 cc0 cc1 cc2 cc3
  obtain ⟨ca0, ca1, ca2, ca3⟩ := box_cells hX5.ha
  obtain ⟨cb0, cb1, cb2, cb3⟩ := box_cells hX5.hb
  obtain ⟨cc0, cc1, cc2, cc3⟩ := box_cells hX5.hc
  have HX5 := Aside0.mk hX5
  clear hX5
  go_wp2_with fail
  refine Calls.mono (same_calls HX5.out.oa HX5.out.ob) ?_
  rintro e w6 ⟨rfl, hb6⟩
  rw [hs.out]
  have hX6 := HX5.out.below hb6
  have HD6 := Aside0.mk (below_step HD5.out hb6)
  clear hb6 ca0 ca1 ca2 ca3 cb0 cb1 cb2 cb3 cc0 cc1 cc2 cc3
  obtain ⟨ca0, ca1, ca2, ca3⟩ := box_cells hX6.ha
  obtain ⟨cb0, cb1, cb2, cb3⟩ := box_cells hX6.hb
  obtain ⟨cc0, cc1, cc2, cc3⟩ := box_cells hX6.hc
  have HX6 := Aside0.mk hX6
  clear hX6
  go_wp2_with fail
  refine Calls.mono (order_calls HX6.out.oa HX6.out.oa) ?_
  rintro e w7 ⟨rfl, hb7⟩
  rw [hr.out]
  have hX7 := HX6.out.below hb7
  have HD7 := Aside0.mk (below_step HD6.out hb7)
  clear hb7 ca0 ca1 ca2 ca3 cb0 cb1 cb2 cb3 cc0 cc1 cc2 cc3
  obtain ⟨ca0, ca1, ca2, ca3⟩ := box_cells hX7.ha
  obtain ⟨cb0, cb1, cb2, cb3⟩ := box_cells hX7.hb
  obtain ⟨cc0, cc1, cc2, cc3⟩ := box_cells hX7.hc
  have HX7 := Aside0.mk hX7
  clear hX7
  go_wp2_with fail
  go_ret
  exact ⟨rfl, HD7.out⟩
set_option maxHeartbeats 4000000 in
theorem ranks_mpm (a b c : Ent) (w : World) (hG : Sim J.none GH w) (ha : a.Ok w) (hb : b.Ok w) (hc : c.Ok w)
    (hx : Aside0 (a.cmp b = -1)) (hy : Aside0 (b.cmp c = 1)) (hz : Aside0 (a.cmp c = -1)) (hn : Aside0 (b.cmp a = 1)) (hs : Aside0 (decide (a.cmp b = 0) = false)) (hr : Aside0 (a.cmp a = 0)) :
    Calls PP 8 #[.agg #[.slice a.A a.l.length a.cA, .int .i64 a.p, .string a.s, .slice a.C a.m.length a.cC], .agg #[.slice b.A b.l.length b.cA, .int .i64 b.p, .string b.s, .slice b.C b.m.length b.cC], .agg #[.slice c.A c.l.length c.cA, .int .i64 c.p, .string c.s, .slice c.C c.m.length c.cC]] w
      fun e w' => e = .returned (.bool true) ∧ Below w.heap.size w w' := by
  have hX0 := boxes_first a b c w ha hb hc
  have hD0 : Below w.heap.size w (((w.alloc (.cells a.cs 39)).alloc (.cells b.cs 39)).alloc (.cells c.cs 39)) := below_alloc (below_alloc (below_alloc (Below.refl _ _) _) _) _
  have HX0 := Aside0.mk hX0
  have HD0 := Aside0.mk hD0
  clear ha hb hc hX0 hD0
  go_enter Tryz.func8, Tryz.ntmps8
  go_wp2_with fail
  refine Calls.mono (shown_calls (hG.below HD0.out)) ?_
  rintro e w1 ⟨rfl, hb1⟩
  have hX1 := HX0.out.below hb1
  have HD1 := Aside0.mk (below_step HD0.out hb1)
  clear hb1
  obtain ⟨ca0, ca1, ca2, ca3⟩ := box_cells hX1.ha
  obtain ⟨cb0, cb1, cb2, cb3⟩ := box_cells hX1.hb
  obtain ⟨cc0, cc1, cc2, cc3⟩ := box_cells hX1.hc
  have HX1 := Aside0.mk hX1
  clear hX1
  go_wp2_with fail
  refine Calls.mono (order_calls HX1.out.oa HX1.out.ob) ?_
  rintro e w2 ⟨rfl, hb2⟩
  rw [hx.out]
  have hX2 := HX1.out.below hb2
  have HD2 := Aside0.mk (below_step HD1.out hb2)
  clear hb2 ca0 ca1 ca2 ca3 cb0 cb1 cb2 cb3 cc0 cc1 cc2 cc3
  obtain ⟨ca0, ca1, ca2, ca3⟩ := box_cells hX2.ha
  obtain ⟨cb0, cb1, cb2, cb3⟩ := box_cells hX2.hb
  obtain ⟨cc0, cc1, cc2, cc3⟩ := box_cells hX2.hc
  have HX2 := Aside0.mk hX2
  clear hX2
  go_wp2_with fail
  refine Calls.mono (order_calls HX2.out.ob HX2.out.oc) ?_
  rintro e w3 ⟨rfl, hb3⟩
  rw [hy.out]
  have hX3 := HX2.out.below hb3
  have HD3 := Aside0.mk (below_step HD2.out hb3)
  clear hb3 ca0 ca1 ca2 ca3 cb0 cb1 cb2 cb3 cc0 cc1 cc2 cc3
  obtain ⟨ca0, ca1, ca2, ca3⟩ := box_cells hX3.ha
  obtain ⟨cb0, cb1, cb2, cb3⟩ := box_cells hX3.hb
  obtain ⟨cc0, cc1, cc2, cc3⟩ := box_cells hX3.hc
  have HX3 := Aside0.mk hX3
  clear hX3
  go_wp2_with fail
  refine Calls.mono (order_calls HX3.out.oa HX3.out.oc) ?_
  rintro e w4 ⟨rfl, hb4⟩
  rw [hz.out]
  have hX4 := HX3.out.below hb4
  have HD4 := Aside0.mk (below_step HD3.out hb4)
  clear hb4 ca0 ca1 ca2 ca3 cb0 cb1 cb2 cb3 cc0 cc1 cc2 cc3
  obtain ⟨ca0, ca1, ca2, ca3⟩ := box_cells hX4.ha
  obtain ⟨cb0, cb1, cb2, cb3⟩ := box_cells hX4.hb
  obtain ⟨cc0, cc1, cc2, cc3⟩ := box_cells hX4.hc
  have HX4 := Aside0.mk hX4
  clear hX4
  go_wp2_with fail
  refine Calls.mono (order_calls HX4.out.ob HX4.out.oa) ?_
  rintro e w5 ⟨rfl, hb5⟩
  rw [hn.out]
  have hX5 := HX4.out.below hb5
  have HD5 := Aside0.mk (below_step HD4.out hb5)
  clear hb5 ca0 ca1 ca2 ca3 cb0 cb1 cb2 cb3 cc0 cc1 cc2 cc3
  obtain ⟨ca0, ca1, ca2, ca3⟩ := box_cells hX5.ha
  obtain ⟨cb0, cb1, cb2, cb3⟩ := box_cells hX5.hb
  obtain ⟨cc0, cc1, cc2, cc3⟩ := box_cells hX5.hc
  have HX5 := Aside0.mk hX5
  clear hX5
  go_wp2_with fail
  refine Calls.mono (same_calls HX5.out.oa HX5.out.ob) ?_
  rintro e w6 ⟨rfl, hb6⟩
  rw [hs.out]
  have hX6 := HX5.out.below hb6
  have HD6 := Aside0.mk (below_step HD5.out hb6)
  clear hb6 ca0 ca1 ca2 ca3 cb0 cb1 cb2 cb3 cc0 cc1 cc2 cc3
  obtain ⟨ca0, ca1, ca2, ca3⟩ := box_cells hX6.ha
  obtain ⟨cb0, cb1, cb2, cb3⟩ := box_cells hX6.hb
  obtain ⟨cc0, cc1, cc2, cc3⟩ := box_cells hX6.hc
  have HX6 := Aside0.mk hX6
  clear hX6
  go_wp2_with fail
  refine Calls.mono (order_calls HX6.out.oa HX6.out.oa) ?_
  rintro e w7 ⟨rfl, hb7⟩
  rw [hr.out]
  have hX7 := HX6.out.below hb7
  have HD7 := Aside0.mk (below_step HD6.out hb7)
  clear hb7 ca0 ca1 ca2 ca3 cb0 cb1 cb2 cb3 cc0 cc1 cc2 cc3
  obtain ⟨ca0, ca1, ca2, ca3⟩ := box_cells hX7.ha
  obtain ⟨cb0, cb1, cb2, cb3⟩ := box_cells hX7.hb
  obtain ⟨cc0, cc1, cc2, cc3⟩ := box_cells hX7.hc
  have HX7 := Aside0.mk hX7
  clear hX7
  go_wp2_with fail
  go_ret
  exact ⟨rfl, HD7.out⟩
set_option maxHeartbeats 4000000 in
theorem ranks_mpo (a b c : Ent) (w : World) (hG : Sim J.none GH w) (ha : a.Ok w) (hb : b.Ok w) (hc : c.Ok w)
    (hx : Aside0 (a.cmp b = -1)) (hy : Aside0 (b.cmp c = 1)) (hz : Aside0 (a.cmp c = 0)) (hn : Aside0 (b.cmp a = 1)) (hs : Aside0 (decide (a.cmp b = 0) = false)) (hr : Aside0 (a.cmp a = 0)) :
    Calls PP 8 #[.agg #[.slice a.A a.l.length a.cA, .int .i64 a.p, .string a.s, .slice a.C a.m.length a.cC], .agg #[.slice b.A b.l.length b.cA, .int .i64 b.p, .string b.s, .slice b.C b.m.length b.cC], .agg #[.slice c.A c.l.length c.cA, .int .i64 c.p, .string c.s, .slice c.C c.m.length c.cC]] w
      fun e w' => e = .returned (.bool true) ∧ Below w.heap.size w w' := by
  have hX0 := boxes_first a b c w ha hb hc
  have hD0 : Below w.heap.size w (((w.alloc (.cells a.cs 39)).alloc (.cells b.cs 39)).alloc (.cells c.cs 39)) := below_alloc (below_alloc (below_alloc (Below.refl _ _) _) _) _
  have HX0 := Aside0.mk hX0
  have HD0 := Aside0.mk hD0
  clear ha hb hc hX0 hD0
  go_enter Tryz.func8, Tryz.ntmps8
  go_wp2_with fail
  refine Calls.mono (shown_calls (hG.below HD0.out)) ?_
  rintro e w1 ⟨rfl, hb1⟩
  have hX1 := HX0.out.below hb1
  have HD1 := Aside0.mk (below_step HD0.out hb1)
  clear hb1
  obtain ⟨ca0, ca1, ca2, ca3⟩ := box_cells hX1.ha
  obtain ⟨cb0, cb1, cb2, cb3⟩ := box_cells hX1.hb
  obtain ⟨cc0, cc1, cc2, cc3⟩ := box_cells hX1.hc
  have HX1 := Aside0.mk hX1
  clear hX1
  go_wp2_with fail
  refine Calls.mono (order_calls HX1.out.oa HX1.out.ob) ?_
  rintro e w2 ⟨rfl, hb2⟩
  rw [hx.out]
  have hX2 := HX1.out.below hb2
  have HD2 := Aside0.mk (below_step HD1.out hb2)
  clear hb2 ca0 ca1 ca2 ca3 cb0 cb1 cb2 cb3 cc0 cc1 cc2 cc3
  obtain ⟨ca0, ca1, ca2, ca3⟩ := box_cells hX2.ha
  obtain ⟨cb0, cb1, cb2, cb3⟩ := box_cells hX2.hb
  obtain ⟨cc0, cc1, cc2, cc3⟩ := box_cells hX2.hc
  have HX2 := Aside0.mk hX2
  clear hX2
  go_wp2_with fail
  refine Calls.mono (order_calls HX2.out.ob HX2.out.oc) ?_
  rintro e w3 ⟨rfl, hb3⟩
  rw [hy.out]
  have hX3 := HX2.out.below hb3
  have HD3 := Aside0.mk (below_step HD2.out hb3)
  clear hb3 ca0 ca1 ca2 ca3 cb0 cb1 cb2 cb3 cc0 cc1 cc2 cc3
  obtain ⟨ca0, ca1, ca2, ca3⟩ := box_cells hX3.ha
  obtain ⟨cb0, cb1, cb2, cb3⟩ := box_cells hX3.hb
  obtain ⟨cc0, cc1, cc2, cc3⟩ := box_cells hX3.hc
  have HX3 := Aside0.mk hX3
  clear hX3
  go_wp2_with fail
  refine Calls.mono (order_calls HX3.out.oa HX3.out.oc) ?_
  rintro e w4 ⟨rfl, hb4⟩
  rw [hz.out]
  have hX4 := HX3.out.below hb4
  have HD4 := Aside0.mk (below_step HD3.out hb4)
  clear hb4 ca0 ca1 ca2 ca3 cb0 cb1 cb2 cb3 cc0 cc1 cc2 cc3
  obtain ⟨ca0, ca1, ca2, ca3⟩ := box_cells hX4.ha
  obtain ⟨cb0, cb1, cb2, cb3⟩ := box_cells hX4.hb
  obtain ⟨cc0, cc1, cc2, cc3⟩ := box_cells hX4.hc
  have HX4 := Aside0.mk hX4
  clear hX4
  go_wp2_with fail
  refine Calls.mono (order_calls HX4.out.ob HX4.out.oa) ?_
  rintro e w5 ⟨rfl, hb5⟩
  rw [hn.out]
  have hX5 := HX4.out.below hb5
  have HD5 := Aside0.mk (below_step HD4.out hb5)
  clear hb5 ca0 ca1 ca2 ca3 cb0 cb1 cb2 cb3 cc0 cc1 cc2 cc3
  obtain ⟨ca0, ca1, ca2, ca3⟩ := box_cells hX5.ha
  obtain ⟨cb0, cb1, cb2, cb3⟩ := box_cells hX5.hb
  obtain ⟨cc0, cc1, cc2, cc3⟩ := box_cells hX5.hc
  have HX5 := Aside0.mk hX5
  clear hX5
  go_wp2_with fail
  refine Calls.mono (same_calls HX5.out.oa HX5.out.ob) ?_
  rintro e w6 ⟨rfl, hb6⟩
  rw [hs.out]
  have hX6 := HX5.out.below hb6
  have HD6 := Aside0.mk (below_step HD5.out hb6)
  clear hb6 ca0 ca1 ca2 ca3 cb0 cb1 cb2 cb3 cc0 cc1 cc2 cc3
  obtain ⟨ca0, ca1, ca2, ca3⟩ := box_cells hX6.ha
  obtain ⟨cb0, cb1, cb2, cb3⟩ := box_cells hX6.hb
  obtain ⟨cc0, cc1, cc2, cc3⟩ := box_cells hX6.hc
  have HX6 := Aside0.mk hX6
  clear hX6
  go_wp2_with fail
  refine Calls.mono (order_calls HX6.out.oa HX6.out.oa) ?_
  rintro e w7 ⟨rfl, hb7⟩
  rw [hr.out]
  have hX7 := HX6.out.below hb7
  have HD7 := Aside0.mk (below_step HD6.out hb7)
  clear hb7 ca0 ca1 ca2 ca3 cb0 cb1 cb2 cb3 cc0 cc1 cc2 cc3
  obtain ⟨ca0, ca1, ca2, ca3⟩ := box_cells hX7.ha
  obtain ⟨cb0, cb1, cb2, cb3⟩ := box_cells hX7.hb
  obtain ⟨cc0, cc1, cc2, cc3⟩ := box_cells hX7.hc
  have HX7 := Aside0.mk hX7
  clear hX7
  go_wp2_with fail
  go_ret
  exact ⟨rfl, HD7.out⟩
set_option maxHeartbeats 4000000 in
theorem ranks_mpp (a b c : Ent) (w : World) (hG : Sim J.none GH w) (ha : a.Ok w) (hb : b.Ok w) (hc : c.Ok w)
    (hx : Aside0 (a.cmp b = -1)) (hy : Aside0 (b.cmp c = 1)) (hz : Aside0 (a.cmp c = 1)) (hn : Aside0 (b.cmp a = 1)) (hs : Aside0 (decide (a.cmp b = 0) = false)) (hr : Aside0 (a.cmp a = 0)) :
    Calls PP 8 #[.agg #[.slice a.A a.l.length a.cA, .int .i64 a.p, .string a.s, .slice a.C a.m.length a.cC], .agg #[.slice b.A b.l.length b.cA, .int .i64 b.p, .string b.s, .slice b.C b.m.length b.cC], .agg #[.slice c.A c.l.length c.cA, .int .i64 c.p, .string c.s, .slice c.C c.m.length c.cC]] w
      fun e w' => e = .returned (.bool true) ∧ Below w.heap.size w w' := by
  have hX0 := boxes_first a b c w ha hb hc
  have hD0 : Below w.heap.size w (((w.alloc (.cells a.cs 39)).alloc (.cells b.cs 39)).alloc (.cells c.cs 39)) := below_alloc (below_alloc (below_alloc (Below.refl _ _) _) _) _
  have HX0 := Aside0.mk hX0
  have HD0 := Aside0.mk hD0
  clear ha hb hc hX0 hD0
  go_enter Tryz.func8, Tryz.ntmps8
  go_wp2_with fail
  refine Calls.mono (shown_calls (hG.below HD0.out)) ?_
  rintro e w1 ⟨rfl, hb1⟩
  have hX1 := HX0.out.below hb1
  have HD1 := Aside0.mk (below_step HD0.out hb1)
  clear hb1
  obtain ⟨ca0, ca1, ca2, ca3⟩ := box_cells hX1.ha
  obtain ⟨cb0, cb1, cb2, cb3⟩ := box_cells hX1.hb
  obtain ⟨cc0, cc1, cc2, cc3⟩ := box_cells hX1.hc
  have HX1 := Aside0.mk hX1
  clear hX1
  go_wp2_with fail
  refine Calls.mono (order_calls HX1.out.oa HX1.out.ob) ?_
  rintro e w2 ⟨rfl, hb2⟩
  rw [hx.out]
  have hX2 := HX1.out.below hb2
  have HD2 := Aside0.mk (below_step HD1.out hb2)
  clear hb2 ca0 ca1 ca2 ca3 cb0 cb1 cb2 cb3 cc0 cc1 cc2 cc3
  obtain ⟨ca0, ca1, ca2, ca3⟩ := box_cells hX2.ha
  obtain ⟨cb0, cb1, cb2, cb3⟩ := box_cells hX2.hb
  obtain ⟨cc0, cc1, cc2, cc3⟩ := box_cells hX2.hc
  have HX2 := Aside0.mk hX2
  clear hX2
  go_wp2_with fail
  refine Calls.mono (order_calls HX2.out.ob HX2.out.oc) ?_
  rintro e w3 ⟨rfl, hb3⟩
  rw [hy.out]
  have hX3 := HX2.out.below hb3
  have HD3 := Aside0.mk (below_step HD2.out hb3)
  clear hb3 ca0 ca1 ca2 ca3 cb0 cb1 cb2 cb3 cc0 cc1 cc2 cc3
  obtain ⟨ca0, ca1, ca2, ca3⟩ := box_cells hX3.ha
  obtain ⟨cb0, cb1, cb2, cb3⟩ := box_cells hX3.hb
  obtain ⟨cc0, cc1, cc2, cc3⟩ := box_cells hX3.hc
  have HX3 := Aside0.mk hX3
  clear hX3
  go_wp2_with fail
  refine Calls.mono (order_calls HX3.out.oa HX3.out.oc) ?_
  rintro e w4 ⟨rfl, hb4⟩
  rw [hz.out]
  have hX4 := HX3.out.below hb4
  have HD4 := Aside0.mk (below_step HD3.out hb4)
  clear hb4 ca0 ca1 ca2 ca3 cb0 cb1 cb2 cb3 cc0 cc1 cc2 cc3
  obtain ⟨ca0, ca1, ca2, ca3⟩ := box_cells hX4.ha
  obtain ⟨cb0, cb1, cb2, cb3⟩ := box_cells hX4.hb
  obtain ⟨cc0, cc1, cc2, cc3⟩ := box_cells hX4.hc
  have HX4 := Aside0.mk hX4
  clear hX4
  go_wp2_with fail
  refine Calls.mono (order_calls HX4.out.ob HX4.out.oa) ?_
  rintro e w5 ⟨rfl, hb5⟩
  rw [hn.out]
  have hX5 := HX4.out.below hb5
  have HD5 := Aside0.mk (below_step HD4.out hb5)
  clear hb5 ca0 ca1 ca2 ca3 cb0 cb1 cb2 cb3 cc0 cc1 cc2 cc3
  obtain ⟨ca0, ca1, ca2, ca3⟩ := box_cells hX5.ha
  obtain ⟨cb0, cb1, cb2, cb3⟩ := box_cells hX5.hb
  obtain ⟨cc0, cc1, cc2, cc3⟩ := box_cells hX5.hc
  have HX5 := Aside0.mk hX5
  clear hX5
  go_wp2_with fail
  refine Calls.mono (same_calls HX5.out.oa HX5.out.ob) ?_
  rintro e w6 ⟨rfl, hb6⟩
  rw [hs.out]
  have hX6 := HX5.out.below hb6
  have HD6 := Aside0.mk (below_step HD5.out hb6)
  clear hb6 ca0 ca1 ca2 ca3 cb0 cb1 cb2 cb3 cc0 cc1 cc2 cc3
  obtain ⟨ca0, ca1, ca2, ca3⟩ := box_cells hX6.ha
  obtain ⟨cb0, cb1, cb2, cb3⟩ := box_cells hX6.hb
  obtain ⟨cc0, cc1, cc2, cc3⟩ := box_cells hX6.hc
  have HX6 := Aside0.mk hX6
  clear hX6
  go_wp2_with fail
  refine Calls.mono (order_calls HX6.out.oa HX6.out.oa) ?_
  rintro e w7 ⟨rfl, hb7⟩
  rw [hr.out]
  have hX7 := HX6.out.below hb7
  have HD7 := Aside0.mk (below_step HD6.out hb7)
  clear hb7 ca0 ca1 ca2 ca3 cb0 cb1 cb2 cb3 cc0 cc1 cc2 cc3
  obtain ⟨ca0, ca1, ca2, ca3⟩ := box_cells hX7.ha
  obtain ⟨cb0, cb1, cb2, cb3⟩ := box_cells hX7.hb
  obtain ⟨cc0, cc1, cc2, cc3⟩ := box_cells hX7.hc
  have HX7 := Aside0.mk hX7
  clear hX7
  go_wp2_with fail
  go_ret
  exact ⟨rfl, HD7.out⟩
set_option maxHeartbeats 4000000 in
theorem ranks_omm (a b c : Ent) (w : World) (hG : Sim J.none GH w) (ha : a.Ok w) (hb : b.Ok w) (hc : c.Ok w)
    (hx : Aside0 (a.cmp b = 0)) (hy : Aside0 (b.cmp c = -1)) (hz : Aside0 (a.cmp c = -1)) (hn : Aside0 (b.cmp a = 0)) (hs : Aside0 (decide (a.cmp b = 0) = true)) (hr : Aside0 (a.cmp a = 0)) :
    Calls PP 8 #[.agg #[.slice a.A a.l.length a.cA, .int .i64 a.p, .string a.s, .slice a.C a.m.length a.cC], .agg #[.slice b.A b.l.length b.cA, .int .i64 b.p, .string b.s, .slice b.C b.m.length b.cC], .agg #[.slice c.A c.l.length c.cA, .int .i64 c.p, .string c.s, .slice c.C c.m.length c.cC]] w
      fun e w' => e = .returned (.bool true) ∧ Below w.heap.size w w' := by
  have hX0 := boxes_first a b c w ha hb hc
  have hD0 : Below w.heap.size w (((w.alloc (.cells a.cs 39)).alloc (.cells b.cs 39)).alloc (.cells c.cs 39)) := below_alloc (below_alloc (below_alloc (Below.refl _ _) _) _) _
  have HX0 := Aside0.mk hX0
  have HD0 := Aside0.mk hD0
  clear ha hb hc hX0 hD0
  go_enter Tryz.func8, Tryz.ntmps8
  go_wp2_with fail
  refine Calls.mono (shown_calls (hG.below HD0.out)) ?_
  rintro e w1 ⟨rfl, hb1⟩
  have hX1 := HX0.out.below hb1
  have HD1 := Aside0.mk (below_step HD0.out hb1)
  clear hb1
  obtain ⟨ca0, ca1, ca2, ca3⟩ := box_cells hX1.ha
  obtain ⟨cb0, cb1, cb2, cb3⟩ := box_cells hX1.hb
  obtain ⟨cc0, cc1, cc2, cc3⟩ := box_cells hX1.hc
  have HX1 := Aside0.mk hX1
  clear hX1
  go_wp2_with fail
  refine Calls.mono (order_calls HX1.out.oa HX1.out.ob) ?_
  rintro e w2 ⟨rfl, hb2⟩
  rw [hx.out]
  have hX2 := HX1.out.below hb2
  have HD2 := Aside0.mk (below_step HD1.out hb2)
  clear hb2 ca0 ca1 ca2 ca3 cb0 cb1 cb2 cb3 cc0 cc1 cc2 cc3
  obtain ⟨ca0, ca1, ca2, ca3⟩ := box_cells hX2.ha
  obtain ⟨cb0, cb1, cb2, cb3⟩ := box_cells hX2.hb
  obtain ⟨cc0, cc1, cc2, cc3⟩ := box_cells hX2.hc
  have HX2 := Aside0.mk hX2
  clear hX2
  go_wp2_with fail
  refine Calls.mono (order_calls HX2.out.ob HX2.out.oc) ?_
  rintro e w3 ⟨rfl, hb3⟩
  rw [hy.out]
  have hX3 := HX2.out.below hb3
  have HD3 := Aside0.mk (below_step HD2.out hb3)
  clear hb3 ca0 ca1 ca2 ca3 cb0 cb1 cb2 cb3 cc0 cc1 cc2 cc3
  obtain ⟨ca0, ca1, ca2, ca3⟩ := box_cells hX3.ha
  obtain ⟨cb0, cb1, cb2, cb3⟩ := box_cells hX3.hb
  obtain ⟨cc0, cc1, cc2, cc3⟩ := box_cells hX3.hc
  have HX3 := Aside0.mk hX3
  clear hX3
  go_wp2_with fail
  refine Calls.mono (order_calls HX3.out.oa HX3.out.oc) ?_
  rintro e w4 ⟨rfl, hb4⟩
  rw [hz.out]
  have hX4 := HX3.out.below hb4
  have HD4 := Aside0.mk (below_step HD3.out hb4)
  clear hb4 ca0 ca1 ca2 ca3 cb0 cb1 cb2 cb3 cc0 cc1 cc2 cc3
  obtain ⟨ca0, ca1, ca2, ca3⟩ := box_cells hX4.ha
  obtain ⟨cb0, cb1, cb2, cb3⟩ := box_cells hX4.hb
  obtain ⟨cc0, cc1, cc2, cc3⟩ := box_cells hX4.hc
  have HX4 := Aside0.mk hX4
  clear hX4
  go_wp2_with fail
  refine Calls.mono (order_calls HX4.out.ob HX4.out.oa) ?_
  rintro e w5 ⟨rfl, hb5⟩
  rw [hn.out]
  have hX5 := HX4.out.below hb5
  have HD5 := Aside0.mk (below_step HD4.out hb5)
  clear hb5 ca0 ca1 ca2 ca3 cb0 cb1 cb2 cb3 cc0 cc1 cc2 cc3
  obtain ⟨ca0, ca1, ca2, ca3⟩ := box_cells hX5.ha
  obtain ⟨cb0, cb1, cb2, cb3⟩ := box_cells hX5.hb
  obtain ⟨cc0, cc1, cc2, cc3⟩ := box_cells hX5.hc
  have HX5 := Aside0.mk hX5
  clear hX5
  go_wp2_with fail
  refine Calls.mono (same_calls HX5.out.oa HX5.out.ob) ?_
  rintro e w6 ⟨rfl, hb6⟩
  rw [hs.out]
  have hX6 := HX5.out.below hb6
  have HD6 := Aside0.mk (below_step HD5.out hb6)
  clear hb6 ca0 ca1 ca2 ca3 cb0 cb1 cb2 cb3 cc0 cc1 cc2 cc3
  obtain ⟨ca0, ca1, ca2, ca3⟩ := box_cells hX6.ha
  obtain ⟨cb0, cb1, cb2, cb3⟩ := box_cells hX6.hb
  obtain ⟨cc0, cc1, cc2, cc3⟩ := box_cells hX6.hc
  have HX6 := Aside0.mk hX6
  clear hX6
  go_wp2_with fail
  refine Calls.mono (order_calls HX6.out.oa HX6.out.oa) ?_
  rintro e w7 ⟨rfl, hb7⟩
  rw [hr.out]
  have hX7 := HX6.out.below hb7
  have HD7 := Aside0.mk (below_step HD6.out hb7)
  clear hb7 ca0 ca1 ca2 ca3 cb0 cb1 cb2 cb3 cc0 cc1 cc2 cc3
  obtain ⟨ca0, ca1, ca2, ca3⟩ := box_cells hX7.ha
  obtain ⟨cb0, cb1, cb2, cb3⟩ := box_cells hX7.hb
  obtain ⟨cc0, cc1, cc2, cc3⟩ := box_cells hX7.hc
  have HX7 := Aside0.mk hX7
  clear hX7
  go_wp2_with fail
  go_ret
  exact ⟨rfl, HD7.out⟩
set_option maxHeartbeats 4000000 in
theorem ranks_ooo (a b c : Ent) (w : World) (hG : Sim J.none GH w) (ha : a.Ok w) (hb : b.Ok w) (hc : c.Ok w)
    (hx : Aside0 (a.cmp b = 0)) (hy : Aside0 (b.cmp c = 0)) (hz : Aside0 (a.cmp c = 0)) (hn : Aside0 (b.cmp a = 0)) (hs : Aside0 (decide (a.cmp b = 0) = true)) (hr : Aside0 (a.cmp a = 0)) :
    Calls PP 8 #[.agg #[.slice a.A a.l.length a.cA, .int .i64 a.p, .string a.s, .slice a.C a.m.length a.cC], .agg #[.slice b.A b.l.length b.cA, .int .i64 b.p, .string b.s, .slice b.C b.m.length b.cC], .agg #[.slice c.A c.l.length c.cA, .int .i64 c.p, .string c.s, .slice c.C c.m.length c.cC]] w
      fun e w' => e = .returned (.bool true) ∧ Below w.heap.size w w' := by
  have hX0 := boxes_first a b c w ha hb hc
  have hD0 : Below w.heap.size w (((w.alloc (.cells a.cs 39)).alloc (.cells b.cs 39)).alloc (.cells c.cs 39)) := below_alloc (below_alloc (below_alloc (Below.refl _ _) _) _) _
  have HX0 := Aside0.mk hX0
  have HD0 := Aside0.mk hD0
  clear ha hb hc hX0 hD0
  go_enter Tryz.func8, Tryz.ntmps8
  go_wp2_with fail
  refine Calls.mono (shown_calls (hG.below HD0.out)) ?_
  rintro e w1 ⟨rfl, hb1⟩
  have hX1 := HX0.out.below hb1
  have HD1 := Aside0.mk (below_step HD0.out hb1)
  clear hb1
  obtain ⟨ca0, ca1, ca2, ca3⟩ := box_cells hX1.ha
  obtain ⟨cb0, cb1, cb2, cb3⟩ := box_cells hX1.hb
  obtain ⟨cc0, cc1, cc2, cc3⟩ := box_cells hX1.hc
  have HX1 := Aside0.mk hX1
  clear hX1
  go_wp2_with fail
  refine Calls.mono (order_calls HX1.out.oa HX1.out.ob) ?_
  rintro e w2 ⟨rfl, hb2⟩
  rw [hx.out]
  have hX2 := HX1.out.below hb2
  have HD2 := Aside0.mk (below_step HD1.out hb2)
  clear hb2 ca0 ca1 ca2 ca3 cb0 cb1 cb2 cb3 cc0 cc1 cc2 cc3
  obtain ⟨ca0, ca1, ca2, ca3⟩ := box_cells hX2.ha
  obtain ⟨cb0, cb1, cb2, cb3⟩ := box_cells hX2.hb
  obtain ⟨cc0, cc1, cc2, cc3⟩ := box_cells hX2.hc
  have HX2 := Aside0.mk hX2
  clear hX2
  go_wp2_with fail
  refine Calls.mono (order_calls HX2.out.ob HX2.out.oc) ?_
  rintro e w3 ⟨rfl, hb3⟩
  rw [hy.out]
  have hX3 := HX2.out.below hb3
  have HD3 := Aside0.mk (below_step HD2.out hb3)
  clear hb3 ca0 ca1 ca2 ca3 cb0 cb1 cb2 cb3 cc0 cc1 cc2 cc3
  obtain ⟨ca0, ca1, ca2, ca3⟩ := box_cells hX3.ha
  obtain ⟨cb0, cb1, cb2, cb3⟩ := box_cells hX3.hb
  obtain ⟨cc0, cc1, cc2, cc3⟩ := box_cells hX3.hc
  have HX3 := Aside0.mk hX3
  clear hX3
  go_wp2_with fail
  refine Calls.mono (order_calls HX3.out.oa HX3.out.oc) ?_
  rintro e w4 ⟨rfl, hb4⟩
  rw [hz.out]
  have hX4 := HX3.out.below hb4
  have HD4 := Aside0.mk (below_step HD3.out hb4)
  clear hb4 ca0 ca1 ca2 ca3 cb0 cb1 cb2 cb3 cc0 cc1 cc2 cc3
  obtain ⟨ca0, ca1, ca2, ca3⟩ := box_cells hX4.ha
  obtain ⟨cb0, cb1, cb2, cb3⟩ := box_cells hX4.hb
  obtain ⟨cc0, cc1, cc2, cc3⟩ := box_cells hX4.hc
  have HX4 := Aside0.mk hX4
  clear hX4
  go_wp2_with fail
  refine Calls.mono (order_calls HX4.out.ob HX4.out.oa) ?_
  rintro e w5 ⟨rfl, hb5⟩
  rw [hn.out]
  have hX5 := HX4.out.below hb5
  have HD5 := Aside0.mk (below_step HD4.out hb5)
  clear hb5 ca0 ca1 ca2 ca3 cb0 cb1 cb2 cb3 cc0 cc1 cc2 cc3
  obtain ⟨ca0, ca1, ca2, ca3⟩ := box_cells hX5.ha
  obtain ⟨cb0, cb1, cb2, cb3⟩ := box_cells hX5.hb
  obtain ⟨cc0, cc1, cc2, cc3⟩ := box_cells hX5.hc
  have HX5 := Aside0.mk hX5
  clear hX5
  go_wp2_with fail
  refine Calls.mono (same_calls HX5.out.oa HX5.out.ob) ?_
  rintro e w6 ⟨rfl, hb6⟩
  rw [hs.out]
  have hX6 := HX5.out.below hb6
  have HD6 := Aside0.mk (below_step HD5.out hb6)
  clear hb6 ca0 ca1 ca2 ca3 cb0 cb1 cb2 cb3 cc0 cc1 cc2 cc3
  obtain ⟨ca0, ca1, ca2, ca3⟩ := box_cells hX6.ha
  obtain ⟨cb0, cb1, cb2, cb3⟩ := box_cells hX6.hb
  obtain ⟨cc0, cc1, cc2, cc3⟩ := box_cells hX6.hc
  have HX6 := Aside0.mk hX6
  clear hX6
  go_wp2_with fail
  refine Calls.mono (order_calls HX6.out.oa HX6.out.oa) ?_
  rintro e w7 ⟨rfl, hb7⟩
  rw [hr.out]
  have hX7 := HX6.out.below hb7
  have HD7 := Aside0.mk (below_step HD6.out hb7)
  clear hb7 ca0 ca1 ca2 ca3 cb0 cb1 cb2 cb3 cc0 cc1 cc2 cc3
  obtain ⟨ca0, ca1, ca2, ca3⟩ := box_cells hX7.ha
  obtain ⟨cb0, cb1, cb2, cb3⟩ := box_cells hX7.hb
  obtain ⟨cc0, cc1, cc2, cc3⟩ := box_cells hX7.hc
  have HX7 := Aside0.mk hX7
  clear hX7
  go_wp2_with fail
  go_ret
  exact ⟨rfl, HD7.out⟩
set_option maxHeartbeats 4000000 in
theorem ranks_opp (a b c : Ent) (w : World) (hG : Sim J.none GH w) (ha : a.Ok w) (hb : b.Ok w) (hc : c.Ok w)
    (hx : Aside0 (a.cmp b = 0)) (hy : Aside0 (b.cmp c = 1)) (hz : Aside0 (a.cmp c = 1)) (hn : Aside0 (b.cmp a = 0)) (hs : Aside0 (decide (a.cmp b = 0) = true)) (hr : Aside0 (a.cmp a = 0)) :
    Calls PP 8 #[.agg #[.slice a.A a.l.length a.cA, .int .i64 a.p, .string a.s, .slice a.C a.m.length a.cC], .agg #[.slice b.A b.l.length b.cA, .int .i64 b.p, .string b.s, .slice b.C b.m.length b.cC], .agg #[.slice c.A c.l.length c.cA, .int .i64 c.p, .string c.s, .slice c.C c.m.length c.cC]] w
      fun e w' => e = .returned (.bool true) ∧ Below w.heap.size w w' := by
  have hX0 := boxes_first a b c w ha hb hc
  have hD0 : Below w.heap.size w (((w.alloc (.cells a.cs 39)).alloc (.cells b.cs 39)).alloc (.cells c.cs 39)) := below_alloc (below_alloc (below_alloc (Below.refl _ _) _) _) _
  have HX0 := Aside0.mk hX0
  have HD0 := Aside0.mk hD0
  clear ha hb hc hX0 hD0
  go_enter Tryz.func8, Tryz.ntmps8
  go_wp2_with fail
  refine Calls.mono (shown_calls (hG.below HD0.out)) ?_
  rintro e w1 ⟨rfl, hb1⟩
  have hX1 := HX0.out.below hb1
  have HD1 := Aside0.mk (below_step HD0.out hb1)
  clear hb1
  obtain ⟨ca0, ca1, ca2, ca3⟩ := box_cells hX1.ha
  obtain ⟨cb0, cb1, cb2, cb3⟩ := box_cells hX1.hb
  obtain ⟨cc0, cc1, cc2, cc3⟩ := box_cells hX1.hc
  have HX1 := Aside0.mk hX1
  clear hX1
  go_wp2_with fail
  refine Calls.mono (order_calls HX1.out.oa HX1.out.ob) ?_
  rintro e w2 ⟨rfl, hb2⟩
  rw [hx.out]
  have hX2 := HX1.out.below hb2
  have HD2 := Aside0.mk (below_step HD1.out hb2)
  clear hb2 ca0 ca1 ca2 ca3 cb0 cb1 cb2 cb3 cc0 cc1 cc2 cc3
  obtain ⟨ca0, ca1, ca2, ca3⟩ := box_cells hX2.ha
  obtain ⟨cb0, cb1, cb2, cb3⟩ := box_cells hX2.hb
  obtain ⟨cc0, cc1, cc2, cc3⟩ := box_cells hX2.hc
  have HX2 := Aside0.mk hX2
  clear hX2
  go_wp2_with fail
  refine Calls.mono (order_calls HX2.out.ob HX2.out.oc) ?_
  rintro e w3 ⟨rfl, hb3⟩
  rw [hy.out]
  have hX3 := HX2.out.below hb3
  have HD3 := Aside0.mk (below_step HD2.out hb3)
  clear hb3 ca0 ca1 ca2 ca3 cb0 cb1 cb2 cb3 cc0 cc1 cc2 cc3
  obtain ⟨ca0, ca1, ca2, ca3⟩ := box_cells hX3.ha
  obtain ⟨cb0, cb1, cb2, cb3⟩ := box_cells hX3.hb
  obtain ⟨cc0, cc1, cc2, cc3⟩ := box_cells hX3.hc
  have HX3 := Aside0.mk hX3
  clear hX3
  go_wp2_with fail
  refine Calls.mono (order_calls HX3.out.oa HX3.out.oc) ?_
  rintro e w4 ⟨rfl, hb4⟩
  rw [hz.out]
  have hX4 := HX3.out.below hb4
  have HD4 := Aside0.mk (below_step HD3.out hb4)
  clear hb4 ca0 ca1 ca2 ca3 cb0 cb1 cb2 cb3 cc0 cc1 cc2 cc3
  obtain ⟨ca0, ca1, ca2, ca3⟩ := box_cells hX4.ha
  obtain ⟨cb0, cb1, cb2, cb3⟩ := box_cells hX4.hb
  obtain ⟨cc0, cc1, cc2, cc3⟩ := box_cells hX4.hc
  have HX4 := Aside0.mk hX4
  clear hX4
  go_wp2_with fail
  refine Calls.mono (order_calls HX4.out.ob HX4.out.oa) ?_
  rintro e w5 ⟨rfl, hb5⟩
  rw [hn.out]
  have hX5 := HX4.out.below hb5
  have HD5 := Aside0.mk (below_step HD4.out hb5)
  clear hb5 ca0 ca1 ca2 ca3 cb0 cb1 cb2 cb3 cc0 cc1 cc2 cc3
  obtain ⟨ca0, ca1, ca2, ca3⟩ := box_cells hX5.ha
  obtain ⟨cb0, cb1, cb2, cb3⟩ := box_cells hX5.hb
  obtain ⟨cc0, cc1, cc2, cc3⟩ := box_cells hX5.hc
  have HX5 := Aside0.mk hX5
  clear hX5
  go_wp2_with fail
  refine Calls.mono (same_calls HX5.out.oa HX5.out.ob) ?_
  rintro e w6 ⟨rfl, hb6⟩
  rw [hs.out]
  have hX6 := HX5.out.below hb6
  have HD6 := Aside0.mk (below_step HD5.out hb6)
  clear hb6 ca0 ca1 ca2 ca3 cb0 cb1 cb2 cb3 cc0 cc1 cc2 cc3
  obtain ⟨ca0, ca1, ca2, ca3⟩ := box_cells hX6.ha
  obtain ⟨cb0, cb1, cb2, cb3⟩ := box_cells hX6.hb
  obtain ⟨cc0, cc1, cc2, cc3⟩ := box_cells hX6.hc
  have HX6 := Aside0.mk hX6
  clear hX6
  go_wp2_with fail
  refine Calls.mono (order_calls HX6.out.oa HX6.out.oa) ?_
  rintro e w7 ⟨rfl, hb7⟩
  rw [hr.out]
  have hX7 := HX6.out.below hb7
  have HD7 := Aside0.mk (below_step HD6.out hb7)
  clear hb7 ca0 ca1 ca2 ca3 cb0 cb1 cb2 cb3 cc0 cc1 cc2 cc3
  obtain ⟨ca0, ca1, ca2, ca3⟩ := box_cells hX7.ha
  obtain ⟨cb0, cb1, cb2, cb3⟩ := box_cells hX7.hb
  obtain ⟨cc0, cc1, cc2, cc3⟩ := box_cells hX7.hc
  have HX7 := Aside0.mk hX7
  clear hX7
  go_wp2_with fail
  go_ret
  exact ⟨rfl, HD7.out⟩
set_option maxHeartbeats 4000000 in
theorem ranks_pmm (a b c : Ent) (w : World) (hG : Sim J.none GH w) (ha : a.Ok w) (hb : b.Ok w) (hc : c.Ok w)
    (hx : Aside0 (a.cmp b = 1)) (hy : Aside0 (b.cmp c = -1)) (hz : Aside0 (a.cmp c = -1)) (hn : Aside0 (b.cmp a = -1)) (hs : Aside0 (decide (a.cmp b = 0) = false)) (hr : Aside0 (a.cmp a = 0)) :
    Calls PP 8 #[.agg #[.slice a.A a.l.length a.cA, .int .i64 a.p, .string a.s, .slice a.C a.m.length a.cC], .agg #[.slice b.A b.l.length b.cA, .int .i64 b.p, .string b.s, .slice b.C b.m.length b.cC], .agg #[.slice c.A c.l.length c.cA, .int .i64 c.p, .string c.s, .slice c.C c.m.length c.cC]] w
      fun e w' => e = .returned (.bool true) ∧ Below w.heap.size w w' := by
  have hX0 := boxes_first a b c w ha hb hc
  have hD0 : Below w.heap.size w (((w.alloc (.cells a.cs 39)).alloc (.cells b.cs 39)).alloc (.cells c.cs 39)) := below_alloc (below_alloc (below_alloc (Below.refl _ _) _) _) _
  have HX0 := Aside0.mk hX0
  have HD0 := Aside0.mk hD0
  clear ha hb hc hX0 hD0
  go_enter Tryz.func8, Tryz.ntmps8
  go_wp2_with fail
  refine Calls.mono (shown_calls (hG.below HD0.out)) ?_
  rintro e w1 ⟨rfl, hb1⟩
  have hX1 := HX0.out.below hb1
  have HD1 := Aside0.mk (below_step HD0.out hb1)
  clear hb1
  obtain ⟨ca0, ca1, ca2, ca3⟩ := box_cells hX1.ha
  obtain ⟨cb0, cb1, cb2, cb3⟩ := box_cells hX1.hb
  obtain ⟨cc0, cc1, cc2, cc3⟩ := box_cells hX1.hc
  have HX1 := Aside0.mk hX1
  clear hX1
  go_wp2_with fail
  refine Calls.mono (order_calls HX1.out.oa HX1.out.ob) ?_
  rintro e w2 ⟨rfl, hb2⟩
  rw [hx.out]
  have hX2 := HX1.out.below hb2
  have HD2 := Aside0.mk (below_step HD1.out hb2)
  clear hb2 ca0 ca1 ca2 ca3 cb0 cb1 cb2 cb3 cc0 cc1 cc2 cc3
  obtain ⟨ca0, ca1, ca2, ca3⟩ := box_cells hX2.ha
  obtain ⟨cb0, cb1, cb2, cb3⟩ := box_cells hX2.hb
  obtain ⟨cc0, cc1, cc2, cc3⟩ := box_cells hX2.hc
  have HX2 := Aside0.mk hX2
  clear hX2
  go_wp2_with fail
  refine Calls.mono (order_calls HX2.out.ob HX2.out.oc) ?_
  rintro e w3 ⟨rfl, hb3⟩
  rw [hy.out]
  have hX3 := HX2.out.below hb3
  have HD3 := Aside0.mk (below_step HD2.out hb3)
  clear hb3 ca0 ca1 ca2 ca3 cb0 cb1 cb2 cb3 cc0 cc1 cc2 cc3
  obtain ⟨ca0, ca1, ca2, ca3⟩ := box_cells hX3.ha
  obtain ⟨cb0, cb1, cb2, cb3⟩ := box_cells hX3.hb
  obtain ⟨cc0, cc1, cc2, cc3⟩ := box_cells hX3.hc
  have HX3 := Aside0.mk hX3
  clear hX3
  go_wp2_with fail
  refine Calls.mono (order_calls HX3.out.oa HX3.out.oc) ?_
  rintro e w4 ⟨rfl, hb4⟩
  rw [hz.out]
  have hX4 := HX3.out.below hb4
  have HD4 := Aside0.mk (below_step HD3.out hb4)
  clear hb4 ca0 ca1 ca2 ca3 cb0 cb1 cb2 cb3 cc0 cc1 cc2 cc3
  obtain ⟨ca0, ca1, ca2, ca3⟩ := box_cells hX4.ha
  obtain ⟨cb0, cb1, cb2, cb3⟩ := box_cells hX4.hb
  obtain ⟨cc0, cc1, cc2, cc3⟩ := box_cells hX4.hc
  have HX4 := Aside0.mk hX4
  clear hX4
  go_wp2_with fail
  refine Calls.mono (order_calls HX4.out.ob HX4.out.oa) ?_
  rintro e w5 ⟨rfl, hb5⟩
  rw [hn.out]
  have hX5 := HX4.out.below hb5
  have HD5 := Aside0.mk (below_step HD4.out hb5)
  clear hb5 ca0 ca1 ca2 ca3 cb0 cb1 cb2 cb3 cc0 cc1 cc2 cc3
  obtain ⟨ca0, ca1, ca2, ca3⟩ := box_cells hX5.ha
  obtain ⟨cb0, cb1, cb2, cb3⟩ := box_cells hX5.hb
  obtain ⟨cc0, cc1, cc2, cc3⟩ := box_cells hX5.hc
  have HX5 := Aside0.mk hX5
  clear hX5
  go_wp2_with fail
  refine Calls.mono (same_calls HX5.out.oa HX5.out.ob) ?_
  rintro e w6 ⟨rfl, hb6⟩
  rw [hs.out]
  have hX6 := HX5.out.below hb6
  have HD6 := Aside0.mk (below_step HD5.out hb6)
  clear hb6 ca0 ca1 ca2 ca3 cb0 cb1 cb2 cb3 cc0 cc1 cc2 cc3
  obtain ⟨ca0, ca1, ca2, ca3⟩ := box_cells hX6.ha
  obtain ⟨cb0, cb1, cb2, cb3⟩ := box_cells hX6.hb
  obtain ⟨cc0, cc1, cc2, cc3⟩ := box_cells hX6.hc
  have HX6 := Aside0.mk hX6
  clear hX6
  go_wp2_with fail
  refine Calls.mono (order_calls HX6.out.oa HX6.out.oa) ?_
  rintro e w7 ⟨rfl, hb7⟩
  rw [hr.out]
  have hX7 := HX6.out.below hb7
  have HD7 := Aside0.mk (below_step HD6.out hb7)
  clear hb7 ca0 ca1 ca2 ca3 cb0 cb1 cb2 cb3 cc0 cc1 cc2 cc3
  obtain ⟨ca0, ca1, ca2, ca3⟩ := box_cells hX7.ha
  obtain ⟨cb0, cb1, cb2, cb3⟩ := box_cells hX7.hb
  obtain ⟨cc0, cc1, cc2, cc3⟩ := box_cells hX7.hc
  have HX7 := Aside0.mk hX7
  clear hX7
  go_wp2_with fail
  go_ret
  exact ⟨rfl, HD7.out⟩
set_option maxHeartbeats 4000000 in
theorem ranks_pmo (a b c : Ent) (w : World) (hG : Sim J.none GH w) (ha : a.Ok w) (hb : b.Ok w) (hc : c.Ok w)
    (hx : Aside0 (a.cmp b = 1)) (hy : Aside0 (b.cmp c = -1)) (hz : Aside0 (a.cmp c = 0)) (hn : Aside0 (b.cmp a = -1)) (hs : Aside0 (decide (a.cmp b = 0) = false)) (hr : Aside0 (a.cmp a = 0)) :
    Calls PP 8 #[.agg #[.slice a.A a.l.length a.cA, .int .i64 a.p, .string a.s, .slice a.C a.m.length a.cC], .agg #[.slice b.A b.l.length b.cA, .int .i64 b.p, .string b.s, .slice b.C b.m.length b.cC], .agg #[.slice c.A c.l.length c.cA, .int .i64 c.p, .string c.s, .slice c.C c.m.length c.cC]] w
      fun e w' => e = .returned (.bool true) ∧ Below w.heap.size w w' := by
  have hX0 := boxes_first a b c w ha hb hc
  have hD0 : Below w.heap.size w (((w.alloc (.cells a.cs 39)).alloc (.cells b.cs 39)).alloc (.cells c.cs 39)) := below_alloc (below_alloc (below_alloc (Below.refl _ _) _) _) _
  have HX0 := Aside0.mk hX0
  have HD0 := Aside0.mk hD0
  clear ha hb hc hX0 hD0
  go_enter Tryz.func8, Tryz.ntmps8
  go_wp2_with fail
  refine Calls.mono (shown_calls (hG.below HD0.out)) ?_
  rintro e w1 ⟨rfl, hb1⟩
  have hX1 := HX0.out.below hb1
  have HD1 := Aside0.mk (below_step HD0.out hb1)
  clear hb1
  obtain ⟨ca0, ca1, ca2, ca3⟩ := box_cells hX1.ha
  obtain ⟨cb0, cb1, cb2, cb3⟩ := box_cells hX1.hb
  obtain ⟨cc0, cc1, cc2, cc3⟩ := box_cells hX1.hc
  have HX1 := Aside0.mk hX1
  clear hX1
  go_wp2_with fail
  refine Calls.mono (order_calls HX1.out.oa HX1.out.ob) ?_
  rintro e w2 ⟨rfl, hb2⟩
  rw [hx.out]
  have hX2 := HX1.out.below hb2
  have HD2 := Aside0.mk (below_step HD1.out hb2)
  clear hb2 ca0 ca1 ca2 ca3 cb0 cb1 cb2 cb3 cc0 cc1 cc2 cc3
  obtain ⟨ca0, ca1, ca2, ca3⟩ := box_cells hX2.ha
  obtain ⟨cb0, cb1, cb2, cb3⟩ := box_cells hX2.hb
  obtain ⟨cc0, cc1, cc2, cc3⟩ := box_cells hX2.hc
  have HX2 := Aside0.mk hX2
  clear hX2
  go_wp2_with fail
  refine Calls.mono (order_calls HX2.out.ob HX2.out.oc) ?_
  rintro e w3 ⟨rfl, hb3⟩
  rw [hy.out]
  have hX3 := HX2.out.below hb3
  have HD3 := Aside0.mk (below_step HD2.out hb3)
  clear hb3 ca0 ca1 ca2 ca3 cb0 cb1 cb2 cb3 cc0 cc1 cc2 cc3
  obtain ⟨ca0, ca1, ca2, ca3⟩ := box_cells hX3.ha
  obtain ⟨cb0, cb1, cb2, cb3⟩ := box_cells hX3.hb
  obtain ⟨cc0, cc1, cc2, cc3⟩ := box_cells hX3.hc
  have HX3 := Aside0.mk hX3
  clear hX3
  go_wp2_with fail
  refine Calls.mono (order_calls HX3.out.oa HX3.out.oc) ?_
  rintro e w4 ⟨rfl, hb4⟩
  rw [hz.out]
  have hX4 := HX3.out.below hb4
  have HD4 := Aside0.mk (below_step HD3.out hb4)
  clear hb4 ca0 ca1 ca2 ca3 cb0 cb1 cb2 cb3 cc0 cc1 cc2 cc3
  obtain ⟨ca0, ca1, ca2, ca3⟩ := box_cells hX4.ha
  obtain ⟨cb0, cb1, cb2, cb3⟩ := box_cells hX4.hb
  obtain ⟨cc0, cc1, cc2, cc3⟩ := box_cells hX4.hc
  have HX4 := Aside0.mk hX4
  clear hX4
  go_wp2_with fail
  refine Calls.mono (order_calls HX4.out.ob HX4.out.oa) ?_
  rintro e w5 ⟨rfl, hb5⟩
  rw [hn.out]
  have hX5 := HX4.out.below hb5
  have HD5 := Aside0.mk (below_step HD4.out hb5)
  clear hb5 ca0 ca1 ca2 ca3 cb0 cb1 cb2 cb3 cc0 cc1 cc2 cc3
  obtain ⟨ca0, ca1, ca2, ca3⟩ := box_cells hX5.ha
  obtain ⟨cb0, cb1, cb2, cb3⟩ := box_cells hX5.hb
  obtain ⟨cc0, cc1, cc2, cc3⟩ := box_cells hX5.hc
  have HX5 := Aside0.mk hX5
  clear hX5
  go_wp2_with fail
  refine Calls.mono (same_calls HX5.out.oa HX5.out.ob) ?_
  rintro e w6 ⟨rfl, hb6⟩
  rw [hs.out]
  have hX6 := HX5.out.below hb6
  have HD6 := Aside0.mk (below_step HD5.out hb6)
  clear hb6 ca0 ca1 ca2 ca3 cb0 cb1 cb2 cb3 cc0 cc1 cc2 cc3
  obtain ⟨ca0, ca1, ca2, ca3⟩ := box_cells hX6.ha
  obtain ⟨cb0, cb1, cb2, cb3⟩ := box_cells hX6.hb
  obtain ⟨cc0, cc1, cc2, cc3⟩ := box_cells hX6.hc
  have HX6 := Aside0.mk hX6
  clear hX6
  go_wp2_with fail
  refine Calls.mono (order_calls HX6.out.oa HX6.out.oa) ?_
  rintro e w7 ⟨rfl, hb7⟩
  rw [hr.out]
  have hX7 := HX6.out.below hb7
  have HD7 := Aside0.mk (below_step HD6.out hb7)
  clear hb7 ca0 ca1 ca2 ca3 cb0 cb1 cb2 cb3 cc0 cc1 cc2 cc3
  obtain ⟨ca0, ca1, ca2, ca3⟩ := box_cells hX7.ha
  obtain ⟨cb0, cb1, cb2, cb3⟩ := box_cells hX7.hb
  obtain ⟨cc0, cc1, cc2, cc3⟩ := box_cells hX7.hc
  have HX7 := Aside0.mk hX7
  clear hX7
  go_wp2_with fail
  go_ret
  exact ⟨rfl, HD7.out⟩
set_option maxHeartbeats 4000000 in
theorem ranks_pmp (a b c : Ent) (w : World) (hG : Sim J.none GH w) (ha : a.Ok w) (hb : b.Ok w) (hc : c.Ok w)
    (hx : Aside0 (a.cmp b = 1)) (hy : Aside0 (b.cmp c = -1)) (hz : Aside0 (a.cmp c = 1)) (hn : Aside0 (b.cmp a = -1)) (hs : Aside0 (decide (a.cmp b = 0) = false)) (hr : Aside0 (a.cmp a = 0)) :
    Calls PP 8 #[.agg #[.slice a.A a.l.length a.cA, .int .i64 a.p, .string a.s, .slice a.C a.m.length a.cC], .agg #[.slice b.A b.l.length b.cA, .int .i64 b.p, .string b.s, .slice b.C b.m.length b.cC], .agg #[.slice c.A c.l.length c.cA, .int .i64 c.p, .string c.s, .slice c.C c.m.length c.cC]] w
      fun e w' => e = .returned (.bool true) ∧ Below w.heap.size w w' := by
  have hX0 := boxes_first a b c w ha hb hc
  have hD0 : Below w.heap.size w (((w.alloc (.cells a.cs 39)).alloc (.cells b.cs 39)).alloc (.cells c.cs 39)) := below_alloc (below_alloc (below_alloc (Below.refl _ _) _) _) _
  have HX0 := Aside0.mk hX0
  have HD0 := Aside0.mk hD0
  clear ha hb hc hX0 hD0
  go_enter Tryz.func8, Tryz.ntmps8
  go_wp2_with fail
  refine Calls.mono (shown_calls (hG.below HD0.out)) ?_
  rintro e w1 ⟨rfl, hb1⟩
  have hX1 := HX0.out.below hb1
  have HD1 := Aside0.mk (below_step HD0.out hb1)
  clear hb1
  obtain ⟨ca0, ca1, ca2, ca3⟩ := box_cells hX1.ha
  obtain ⟨cb0, cb1, cb2, cb3⟩ := box_cells hX1.hb
  obtain ⟨cc0, cc1, cc2, cc3⟩ := box_cells hX1.hc
  have HX1 := Aside0.mk hX1
  clear hX1
  go_wp2_with fail
  refine Calls.mono (order_calls HX1.out.oa HX1.out.ob) ?_
  rintro e w2 ⟨rfl, hb2⟩
  rw [hx.out]
  have hX2 := HX1.out.below hb2
  have HD2 := Aside0.mk (below_step HD1.out hb2)
  clear hb2 ca0 ca1 ca2 ca3 cb0 cb1 cb2 cb3 cc0 cc1 cc2 cc3
  obtain ⟨ca0, ca1, ca2, ca3⟩ := box_cells hX2.ha
  obtain ⟨cb0, cb1, cb2, cb3⟩ := box_cells hX2.hb
  obtain ⟨cc0, cc1, cc2, cc3⟩ := box_cells hX2.hc
  have HX2 := Aside0.mk hX2
  clear hX2
  go_wp2_with fail
  refine Calls.mono (order_calls HX2.out.ob HX2.out.oc) ?_
  rintro e w3 ⟨rfl, hb3⟩
  rw [hy.out]
  have hX3 := HX2.out.below hb3
  have HD3 := Aside0.mk (below_step HD2.out hb3)
  clear hb3 ca0 ca1 ca2 ca3 cb0 cb1 cb2 cb3 cc0 cc1 cc2 cc3
  obtain ⟨ca0, ca1, ca2, ca3⟩ := box_cells hX3.ha
  obtain ⟨cb0, cb1, cb2, cb3⟩ := box_cells hX3.hb
  obtain ⟨cc0, cc1, cc2, cc3⟩ := box_cells hX3.hc
  have HX3 := Aside0.mk hX3
  clear hX3
  go_wp2_with fail
  refine Calls.mono (order_calls HX3.out.oa HX3.out.oc) ?_
  rintro e w4 ⟨rfl, hb4⟩
  rw [hz.out]
  have hX4 := HX3.out.below hb4
  have HD4 := Aside0.mk (below_step HD3.out hb4)
  clear hb4 ca0 ca1 ca2 ca3 cb0 cb1 cb2 cb3 cc0 cc1 cc2 cc3
  obtain ⟨ca0, ca1, ca2, ca3⟩ := box_cells hX4.ha
  obtain ⟨cb0, cb1, cb2, cb3⟩ := box_cells hX4.hb
  obtain ⟨cc0, cc1, cc2, cc3⟩ := box_cells hX4.hc
  have HX4 := Aside0.mk hX4
  clear hX4
  go_wp2_with fail
  refine Calls.mono (order_calls HX4.out.ob HX4.out.oa) ?_
  rintro e w5 ⟨rfl, hb5⟩
  rw [hn.out]
  have hX5 := HX4.out.below hb5
  have HD5 := Aside0.mk (below_step HD4.out hb5)
  clear hb5 ca0 ca1 ca2 ca3 cb0 cb1 cb2 cb3 cc0 cc1 cc2 cc3
  obtain ⟨ca0, ca1, ca2, ca3⟩ := box_cells hX5.ha
  obtain ⟨cb0, cb1, cb2, cb3⟩ := box_cells hX5.hb
  obtain ⟨cc0, cc1, cc2, cc3⟩ := box_cells hX5.hc
  have HX5 := Aside0.mk hX5
  clear hX5
  go_wp2_with fail
  refine Calls.mono (same_calls HX5.out.oa HX5.out.ob) ?_
  rintro e w6 ⟨rfl, hb6⟩
  rw [hs.out]
  have hX6 := HX5.out.below hb6
  have HD6 := Aside0.mk (below_step HD5.out hb6)
  clear hb6 ca0 ca1 ca2 ca3 cb0 cb1 cb2 cb3 cc0 cc1 cc2 cc3
  obtain ⟨ca0, ca1, ca2, ca3⟩ := box_cells hX6.ha
  obtain ⟨cb0, cb1, cb2, cb3⟩ := box_cells hX6.hb
  obtain ⟨cc0, cc1, cc2, cc3⟩ := box_cells hX6.hc
  have HX6 := Aside0.mk hX6
  clear hX6
  go_wp2_with fail
  refine Calls.mono (order_calls HX6.out.oa HX6.out.oa) ?_
  rintro e w7 ⟨rfl, hb7⟩
  rw [hr.out]
  have hX7 := HX6.out.below hb7
  have HD7 := Aside0.mk (below_step HD6.out hb7)
  clear hb7 ca0 ca1 ca2 ca3 cb0 cb1 cb2 cb3 cc0 cc1 cc2 cc3
  obtain ⟨ca0, ca1, ca2, ca3⟩ := box_cells hX7.ha
  obtain ⟨cb0, cb1, cb2, cb3⟩ := box_cells hX7.hb
  obtain ⟨cc0, cc1, cc2, cc3⟩ := box_cells hX7.hc
  have HX7 := Aside0.mk hX7
  clear hX7
  go_wp2_with fail
  go_ret
  exact ⟨rfl, HD7.out⟩
set_option maxHeartbeats 4000000 in
theorem ranks_pop (a b c : Ent) (w : World) (hG : Sim J.none GH w) (ha : a.Ok w) (hb : b.Ok w) (hc : c.Ok w)
    (hx : Aside0 (a.cmp b = 1)) (hy : Aside0 (b.cmp c = 0)) (hz : Aside0 (a.cmp c = 1)) (hn : Aside0 (b.cmp a = -1)) (hs : Aside0 (decide (a.cmp b = 0) = false)) (hr : Aside0 (a.cmp a = 0)) :
    Calls PP 8 #[.agg #[.slice a.A a.l.length a.cA, .int .i64 a.p, .string a.s, .slice a.C a.m.length a.cC], .agg #[.slice b.A b.l.length b.cA, .int .i64 b.p, .string b.s, .slice b.C b.m.length b.cC], .agg #[.slice c.A c.l.length c.cA, .int .i64 c.p, .string c.s, .slice c.C c.m.length c.cC]] w
      fun e w' => e = .returned (.bool true) ∧ Below w.heap.size w w' := by
  have hX0 := boxes_first a b c w ha hb hc
  have hD0 : Below w.heap.size w (((w.alloc (.cells a.cs 39)).alloc (.cells b.cs 39)).alloc (.cells c.cs 39)) := below_alloc (below_alloc (below_alloc (Below.refl _ _) _) _) _
  have HX0 := Aside0.mk hX0
  have HD0 := Aside0.mk hD0
  clear ha hb hc hX0 hD0
  go_enter Tryz.func8, Tryz.ntmps8
  go_wp2_with fail
  refine Calls.mono (shown_calls (hG.below HD0.out)) ?_
  rintro e w1 ⟨rfl, hb1⟩
  have hX1 := HX0.out.below hb1
  have HD1 := Aside0.mk (below_step HD0.out hb1)
  clear hb1
  obtain ⟨ca0, ca1, ca2, ca3⟩ := box_cells hX1.ha
  obtain ⟨cb0, cb1, cb2, cb3⟩ := box_cells hX1.hb
  obtain ⟨cc0, cc1, cc2, cc3⟩ := box_cells hX1.hc
  have HX1 := Aside0.mk hX1
  clear hX1
  go_wp2_with fail
  refine Calls.mono (order_calls HX1.out.oa HX1.out.ob) ?_
  rintro e w2 ⟨rfl, hb2⟩
  rw [hx.out]
  have hX2 := HX1.out.below hb2
  have HD2 := Aside0.mk (below_step HD1.out hb2)
  clear hb2 ca0 ca1 ca2 ca3 cb0 cb1 cb2 cb3 cc0 cc1 cc2 cc3
  obtain ⟨ca0, ca1, ca2, ca3⟩ := box_cells hX2.ha
  obtain ⟨cb0, cb1, cb2, cb3⟩ := box_cells hX2.hb
  obtain ⟨cc0, cc1, cc2, cc3⟩ := box_cells hX2.hc
  have HX2 := Aside0.mk hX2
  clear hX2
  go_wp2_with fail
  refine Calls.mono (order_calls HX2.out.ob HX2.out.oc) ?_
  rintro e w3 ⟨rfl, hb3⟩
  rw [hy.out]
  have hX3 := HX2.out.below hb3
  have HD3 := Aside0.mk (below_step HD2.out hb3)
  clear hb3 ca0 ca1 ca2 ca3 cb0 cb1 cb2 cb3 cc0 cc1 cc2 cc3
  obtain ⟨ca0, ca1, ca2, ca3⟩ := box_cells hX3.ha
  obtain ⟨cb0, cb1, cb2, cb3⟩ := box_cells hX3.hb
  obtain ⟨cc0, cc1, cc2, cc3⟩ := box_cells hX3.hc
  have HX3 := Aside0.mk hX3
  clear hX3
  go_wp2_with fail
  refine Calls.mono (order_calls HX3.out.oa HX3.out.oc) ?_
  rintro e w4 ⟨rfl, hb4⟩
  rw [hz.out]
  have hX4 := HX3.out.below hb4
  have HD4 := Aside0.mk (below_step HD3.out hb4)
  clear hb4 ca0 ca1 ca2 ca3 cb0 cb1 cb2 cb3 cc0 cc1 cc2 cc3
  obtain ⟨ca0, ca1, ca2, ca3⟩ := box_cells hX4.ha
  obtain ⟨cb0, cb1, cb2, cb3⟩ := box_cells hX4.hb
  obtain ⟨cc0, cc1, cc2, cc3⟩ := box_cells hX4.hc
  have HX4 := Aside0.mk hX4
  clear hX4
  go_wp2_with fail
  refine Calls.mono (order_calls HX4.out.ob HX4.out.oa) ?_
  rintro e w5 ⟨rfl, hb5⟩
  rw [hn.out]
  have hX5 := HX4.out.below hb5
  have HD5 := Aside0.mk (below_step HD4.out hb5)
  clear hb5 ca0 ca1 ca2 ca3 cb0 cb1 cb2 cb3 cc0 cc1 cc2 cc3
  obtain ⟨ca0, ca1, ca2, ca3⟩ := box_cells hX5.ha
  obtain ⟨cb0, cb1, cb2, cb3⟩ := box_cells hX5.hb
  obtain ⟨cc0, cc1, cc2, cc3⟩ := box_cells hX5.hc
  have HX5 := Aside0.mk hX5
  clear hX5
  go_wp2_with fail
  refine Calls.mono (same_calls HX5.out.oa HX5.out.ob) ?_
  rintro e w6 ⟨rfl, hb6⟩
  rw [hs.out]
  have hX6 := HX5.out.below hb6
  have HD6 := Aside0.mk (below_step HD5.out hb6)
  clear hb6 ca0 ca1 ca2 ca3 cb0 cb1 cb2 cb3 cc0 cc1 cc2 cc3
  obtain ⟨ca0, ca1, ca2, ca3⟩ := box_cells hX6.ha
  obtain ⟨cb0, cb1, cb2, cb3⟩ := box_cells hX6.hb
  obtain ⟨cc0, cc1, cc2, cc3⟩ := box_cells hX6.hc
  have HX6 := Aside0.mk hX6
  clear hX6
  go_wp2_with fail
  refine Calls.mono (order_calls HX6.out.oa HX6.out.oa) ?_
  rintro e w7 ⟨rfl, hb7⟩
  rw [hr.out]
  have hX7 := HX6.out.below hb7
  have HD7 := Aside0.mk (below_step HD6.out hb7)
  clear hb7 ca0 ca1 ca2 ca3 cb0 cb1 cb2 cb3 cc0 cc1 cc2 cc3
  obtain ⟨ca0, ca1, ca2, ca3⟩ := box_cells hX7.ha
  obtain ⟨cb0, cb1, cb2, cb3⟩ := box_cells hX7.hb
  obtain ⟨cc0, cc1, cc2, cc3⟩ := box_cells hX7.hc
  have HX7 := Aside0.mk hX7
  clear hX7
  go_wp2_with fail
  go_ret
  exact ⟨rfl, HD7.out⟩
set_option maxHeartbeats 4000000 in
theorem ranks_ppp (a b c : Ent) (w : World) (hG : Sim J.none GH w) (ha : a.Ok w) (hb : b.Ok w) (hc : c.Ok w)
    (hx : Aside0 (a.cmp b = 1)) (hy : Aside0 (b.cmp c = 1)) (hz : Aside0 (a.cmp c = 1)) (hn : Aside0 (b.cmp a = -1)) (hs : Aside0 (decide (a.cmp b = 0) = false)) (hr : Aside0 (a.cmp a = 0)) :
    Calls PP 8 #[.agg #[.slice a.A a.l.length a.cA, .int .i64 a.p, .string a.s, .slice a.C a.m.length a.cC], .agg #[.slice b.A b.l.length b.cA, .int .i64 b.p, .string b.s, .slice b.C b.m.length b.cC], .agg #[.slice c.A c.l.length c.cA, .int .i64 c.p, .string c.s, .slice c.C c.m.length c.cC]] w
      fun e w' => e = .returned (.bool true) ∧ Below w.heap.size w w' := by
  have hX0 := boxes_first a b c w ha hb hc
  have hD0 : Below w.heap.size w (((w.alloc (.cells a.cs 39)).alloc (.cells b.cs 39)).alloc (.cells c.cs 39)) := below_alloc (below_alloc (below_alloc (Below.refl _ _) _) _) _
  have HX0 := Aside0.mk hX0
  have HD0 := Aside0.mk hD0
  clear ha hb hc hX0 hD0
  go_enter Tryz.func8, Tryz.ntmps8
  go_wp2_with fail
  refine Calls.mono (shown_calls (hG.below HD0.out)) ?_
  rintro e w1 ⟨rfl, hb1⟩
  have hX1 := HX0.out.below hb1
  have HD1 := Aside0.mk (below_step HD0.out hb1)
  clear hb1
  obtain ⟨ca0, ca1, ca2, ca3⟩ := box_cells hX1.ha
  obtain ⟨cb0, cb1, cb2, cb3⟩ := box_cells hX1.hb
  obtain ⟨cc0, cc1, cc2, cc3⟩ := box_cells hX1.hc
  have HX1 := Aside0.mk hX1
  clear hX1
  go_wp2_with fail
  refine Calls.mono (order_calls HX1.out.oa HX1.out.ob) ?_
  rintro e w2 ⟨rfl, hb2⟩
  rw [hx.out]
  have hX2 := HX1.out.below hb2
  have HD2 := Aside0.mk (below_step HD1.out hb2)
  clear hb2 ca0 ca1 ca2 ca3 cb0 cb1 cb2 cb3 cc0 cc1 cc2 cc3
  obtain ⟨ca0, ca1, ca2, ca3⟩ := box_cells hX2.ha
  obtain ⟨cb0, cb1, cb2, cb3⟩ := box_cells hX2.hb
  obtain ⟨cc0, cc1, cc2, cc3⟩ := box_cells hX2.hc
  have HX2 := Aside0.mk hX2
  clear hX2
  go_wp2_with fail
  refine Calls.mono (order_calls HX2.out.ob HX2.out.oc) ?_
  rintro e w3 ⟨rfl, hb3⟩
  rw [hy.out]
  have hX3 := HX2.out.below hb3
  have HD3 := Aside0.mk (below_step HD2.out hb3)
  clear hb3 ca0 ca1 ca2 ca3 cb0 cb1 cb2 cb3 cc0 cc1 cc2 cc3
  obtain ⟨ca0, ca1, ca2, ca3⟩ := box_cells hX3.ha
  obtain ⟨cb0, cb1, cb2, cb3⟩ := box_cells hX3.hb
  obtain ⟨cc0, cc1, cc2, cc3⟩ := box_cells hX3.hc
  have HX3 := Aside0.mk hX3
  clear hX3
  go_wp2_with fail
  refine Calls.mono (order_calls HX3.out.oa HX3.out.oc) ?_
  rintro e w4 ⟨rfl, hb4⟩
  rw [hz.out]
  have hX4 := HX3.out.below hb4
  have HD4 := Aside0.mk (below_step HD3.out hb4)
  clear hb4 ca0 ca1 ca2 ca3 cb0 cb1 cb2 cb3 cc0 cc1 cc2 cc3
  obtain ⟨ca0, ca1, ca2, ca3⟩ := box_cells hX4.ha
  obtain ⟨cb0, cb1, cb2, cb3⟩ := box_cells hX4.hb
  obtain ⟨cc0, cc1, cc2, cc3⟩ := box_cells hX4.hc
  have HX4 := Aside0.mk hX4
  clear hX4
  go_wp2_with fail
  refine Calls.mono (order_calls HX4.out.ob HX4.out.oa) ?_
  rintro e w5 ⟨rfl, hb5⟩
  rw [hn.out]
  have hX5 := HX4.out.below hb5
  have HD5 := Aside0.mk (below_step HD4.out hb5)
  clear hb5 ca0 ca1 ca2 ca3 cb0 cb1 cb2 cb3 cc0 cc1 cc2 cc3
  obtain ⟨ca0, ca1, ca2, ca3⟩ := box_cells hX5.ha
  obtain ⟨cb0, cb1, cb2, cb3⟩ := box_cells hX5.hb
  obtain ⟨cc0, cc1, cc2, cc3⟩ := box_cells hX5.hc
  have HX5 := Aside0.mk hX5
  clear hX5
  go_wp2_with fail
  refine Calls.mono (same_calls HX5.out.oa HX5.out.ob) ?_
  rintro e w6 ⟨rfl, hb6⟩
  rw [hs.out]
  have hX6 := HX5.out.below hb6
  have HD6 := Aside0.mk (below_step HD5.out hb6)
  clear hb6 ca0 ca1 ca2 ca3 cb0 cb1 cb2 cb3 cc0 cc1 cc2 cc3
  obtain ⟨ca0, ca1, ca2, ca3⟩ := box_cells hX6.ha
  obtain ⟨cb0, cb1, cb2, cb3⟩ := box_cells hX6.hb
  obtain ⟨cc0, cc1, cc2, cc3⟩ := box_cells hX6.hc
  have HX6 := Aside0.mk hX6
  clear hX6
  go_wp2_with fail
  refine Calls.mono (order_calls HX6.out.oa HX6.out.oa) ?_
  rintro e w7 ⟨rfl, hb7⟩
  rw [hr.out]
  have hX7 := HX6.out.below hb7
  have HD7 := Aside0.mk (below_step HD6.out hb7)
  clear hb7 ca0 ca1 ca2 ca3 cb0 cb1 cb2 cb3 cc0 cc1 cc2 cc3
  obtain ⟨ca0, ca1, ca2, ca3⟩ := box_cells hX7.ha
  obtain ⟨cb0, cb1, cb2, cb3⟩ := box_cells hX7.hb
  obtain ⟨cc0, cc1, cc2, cc3⟩ := box_cells hX7.hc
  have HX7 := Aside0.mk hX7
  clear hX7
  go_wp2_with fail
  go_ret
  exact ⟨rfl, HD7.out⟩
theorem Ent.law (a b : Ent) : (a.cmp b = -1 ∨ a.cmp b = 0 ∨ a.cmp b = 1) ∧ b.cmp a = - a.cmp b := ⟨law_E.three (a.l, a.p) (b.l, b.p), law_E.anti (a.l, a.p) (b.l, b.p)⟩
theorem Ent.tr (a b c : Ent) : a.cmp b ≤ 0 → b.cmp c ≤ 0 → a.cmp c ≤ 0 ∧ (a.cmp c = 0 → a.cmp b = 0 ∧ b.cmp c = 0) := law_E.trans (a.l, a.p) (b.l, b.p) (c.l, c.p)
theorem ranks_calls (a b c : Ent) (w : World) (hG : Sim J.none GH w) (ha : a.Ok w) (hb : b.Ok w) (hc : c.Ok w) :
    Calls PP 8 #[.agg #[.slice a.A a.l.length a.cA, .int .i64 a.p, .string a.s, .slice a.C a.m.length a.cC], .agg #[.slice b.A b.l.length b.cA, .int .i64 b.p, .string b.s, .slice b.C b.m.length b.cC], .agg #[.slice c.A c.l.length c.cA, .int .i64 c.p, .string c.s, .slice c.C c.m.length c.cC]] w
      fun e w' => e = .returned (.bool true) ∧ Below w.heap.size w w' := by
  obtain ⟨x3, xa⟩ := Ent.law a b
  obtain ⟨y3, ya⟩ := Ent.law b c
  obtain ⟨z3, za⟩ := Ent.law a c
  have rr := (Ent.law a a).2
  have hr : a.cmp a = 0 := by omega
  have t1 := Ent.tr a b c
  have t2 := Ent.tr c b a
  rcases x3 with hx | hx | hx <;> rcases y3 with hy | hy | hy <;> rcases z3 with hz | hz | hz
  · exact ranks_mmm a b c w hG ha hb hc ⟨hx⟩ ⟨hy⟩ ⟨hz⟩ ⟨by omega⟩ ⟨decide_eq_false (by omega)⟩ ⟨hr⟩
  · omega
  · omega
  · exact ranks_mom a b c w hG ha hb hc ⟨hx⟩ ⟨hy⟩ ⟨hz⟩ ⟨by omega⟩ ⟨decide_eq_false (by omega)⟩ ⟨hr⟩
  · omega
  · omega
  · exact ranks_mpm a b c w hG ha hb hc ⟨hx⟩ ⟨hy⟩ ⟨hz⟩ ⟨by omega⟩ ⟨decide_eq_false (by omega)⟩ ⟨hr⟩
  · exact ranks_mpo a b c w hG ha hb hc ⟨hx⟩ ⟨hy⟩ ⟨hz⟩ ⟨by omega⟩ ⟨decide_eq_false (by omega)⟩ ⟨hr⟩
  · exact ranks_mpp a b c w hG ha hb hc ⟨hx⟩ ⟨hy⟩ ⟨hz⟩ ⟨by omega⟩ ⟨decide_eq_false (by omega)⟩ ⟨hr⟩
  · exact ranks_omm a b c w hG ha hb hc ⟨hx⟩ ⟨hy⟩ ⟨hz⟩ ⟨by omega⟩ ⟨decide_eq_true hx⟩ ⟨hr⟩
  · omega
  · omega
  · omega
  · exact ranks_ooo a b c w hG ha hb hc ⟨hx⟩ ⟨hy⟩ ⟨hz⟩ ⟨by omega⟩ ⟨decide_eq_true hx⟩ ⟨hr⟩
  · omega
  · omega
  · omega
  · exact ranks_opp a b c w hG ha hb hc ⟨hx⟩ ⟨hy⟩ ⟨hz⟩ ⟨by omega⟩ ⟨decide_eq_true hx⟩ ⟨hr⟩
  · exact ranks_pmm a b c w hG ha hb hc ⟨hx⟩ ⟨hy⟩ ⟨hz⟩ ⟨by omega⟩ ⟨decide_eq_false (by omega)⟩ ⟨hr⟩
  · exact ranks_pmo a b c w hG ha hb hc ⟨hx⟩ ⟨hy⟩ ⟨hz⟩ ⟨by omega⟩ ⟨decide_eq_false (by omega)⟩ ⟨hr⟩
  · exact ranks_pmp a b c w hG ha hb hc ⟨hx⟩ ⟨hy⟩ ⟨hz⟩ ⟨by omega⟩ ⟨decide_eq_false (by omega)⟩ ⟨hr⟩
  · omega
  · omega
  · exact ranks_pop a b c w hG ha hb hc ⟨hx⟩ ⟨hy⟩ ⟨hz⟩ ⟨by omega⟩ ⟨decide_eq_false (by omega)⟩ ⟨hr⟩
  · omega
  · omega
  · exact ranks_ppp a b c w hG ha hb hc ⟨hx⟩ ⟨hy⟩ ⟨hz⟩ ⟨by omega⟩ ⟨decide_eq_false (by omega)⟩ ⟨hr⟩
end Go.Proofs.YtgfjodldjaojhaaGreatDoor
