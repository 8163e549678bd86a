-- written with the print of the kit, some bodies put aside
import Derived.Test.YtgfjodldjaojhaaGreatDoorProg
import Derived.Below
import Derived.Deep.Draws
import Derived.Deep.AppendLies
import Derived.Maps.AppendAt
import Derived.OwnWalk
import Derived.Laws.BytesArg
import Derived.Laws.MakeOwn
import Derived.Laws.OwnMore
import Derived.Deep.OwnRows
import Derived.Tactics
import Derived.Lib.ConvBytes
import Derived.Laws.Slices
import Derived.WalkKit
import Derived.KernelRfl
import Derived.RowKit3
import Derived.Deep.LoopGhost
import Derived.Deep.QuietTactic
import Derived.BigQuiet
import Derived.WideLaws
import Derived.Deep.DeepCutAuto
import Derived.Deep.CutBlock
import Derived.Deep.RegionHeld3
import Derived.Laws.Rows
import Derived.Lib.AppendStr
import Derived.ArgAppend
import Derived.Laws.IdiomCopy
import Derived.OrdersHeld
import Derived.Laws.BitsLemmas
import Derived.RowKit
import Derived.Test.YtgfjodldjaojhaaGreatDoorWWords
import Derived.Test.YtgfjodldjaojhaaGreatDoorWLast
import Derived.Test.YtgfjodldjaojhaaGreatDoorWTab
import Derived.Test.YtgfjodldjaojhaaGreatDoorWFour
import Derived.Test.YtgfjodldjaojhaaGreatDoorWQPut
import Derived.Test.YtgfjodldjaojhaaGreatDoorWApart
import Derived.Test.YtgfjodldjaojhaaGreatDoorWArr
import Derived.Test.YtgfjodldjaojhaaGreatDoorWZeros
import Derived.Test.YtgfjodldjaojhaaGreatDoorWFoot
import Derived.Test.YtgfjodldjaojhaaGreatDoorWKept
import Derived.Test.YtgfjodldjaojhaaGreatDoorWShare
import Derived.Test.YtgfjodldjaojhaaGreatDoorWN
import Derived.Test.YtgfjodldjaojhaaGreatDoorWFootNe
import Derived.Test.YtgfjodldjaojhaaGreatDoorWAt
import Derived.Test.YtgfjodldjaojhaaGreatDoorWEqStruct
import Derived.Test.YtgfjodldjaojhaaGreatDoorWRepsOne
import Derived.Test.YtgfjodldjaojhaaGreatDoorWInv
import Derived.Test.YtgfjodldjaojhaaGreatDoorWInvWords
import Derived.Test.YtgfjodldjaojhaaGreatDoorWGuard
import Derived.Test.YtgfjodldjaojhaaGreatDoorWNEv
import Derived.Test.YtgfjodldjaojhaaGreatDoorWMore
namespace Go.Proofs.YtgfjodldjaojhaaGreatDoor.POrd
open Go.RowKit Go.Proofs.YtgfjodldjaojhaaGreatDoorW.PrintWords Go.Proofs.YtgfjodldjaojhaaGreatDoorW.PrintLast Go.Proofs.YtgfjodldjaojhaaGreatDoorW.PrintMore
attribute [local go_sem] max2_int min2_int max_two min_two max_three min_three max_four min_four   -- for this text's walks alone
set_option linter.unusedVariables false
set_option linter.unusedSimpArgs false



def errW : Option Int → Value
  | none => .nilIface
  | some c => .iface 0 (.int .i64 c)
theorem errW_none : errW none = .nilIface := rfl
theorem errW_some (c : Int) : errW (some c) = .iface 0 (.int .i64 c) := rfl

theorem info3 : (Tryz.prog.info? 3).map (fun i => (i.zero, i.size, i.bytes)) = some (some (.int .i64 0), 1, 8) := by kernel_rfl
-- the values' own types
/-! #### struct type 74 -/
structure S74 where
  f0 : Int
  f1 : Int
def z74 : S74 := ⟨(0 : Int), (0 : Int)⟩
def k74 : Kd S74 := Kd.iso (Kd.pair (Kd.int .u64) (Kd.int .u64)) (fun x : S74 => (x.f0, x.f1))
theorem k74_open {w : World} {x : S74} {cs : List Value} (h : k74.K w x cs) : cs = [.int .u64 x.f0, .int .u64 x.f1] := by
  obtain ⟨_, _, rfl, rfl, rfl⟩ := h
  exact rfl
theorem k74_openM {w : World} {base : Nat} {ok : Nat → Prop} {x : S74} {cs : List Value} (h : k74.M w base ok x cs) : cs = [.int .u64 x.f0, .int .u64 x.f1] := by
  obtain ⟨_, _, rfl, rfl, rfl⟩ := h
  exact rfl
theorem k74_mk (w : World) (x : S74)  : k74.K w x [.int .u64 x.f0, .int .u64 x.f1] := ⟨[.int .u64 x.f0], [.int .u64 x.f1], rfl, rfl, rfl⟩
theorem k74_mkM (w : World) (base : Nat) (ok : Nat → Prop) (x : S74)  : k74.M w base ok x [.int .u64 x.f0, .int .u64 x.f1] := ⟨[.int .u64 x.f0], [.int .u64 x.f1], rfl, rfl, rfl⟩
def rd_T74 (xs : List S74) (i : Int) : S74 := xs.getD i.toNat z74
theorem at_T74 {w : World} {A : Option Addr} {n : Nat} {xs : List S74} (h : Kd.C k74 w A n xs) (i : Int) (h0 : 0 ≤ i) (h1 : i < n) : ∃ ad , A = some ad ∧ w.cell? (ad.add (i.toNat * 2)) = some (.int .u64 (rd_T74 xs i).f0) ∧ w.cell? ⟨(ad.add (i.toNat * 2)).block, (ad.add (i.toNat * 2)).off + 1, none⟩ = some (.int .u64 (rd_T74 xs i).f1) := by
  obtain ⟨ad, c, e, _, hK, hc0⟩ := Kd.C_get h z74 i h0 h1
  have hc : ∀ j u, c[j]? = some u → w.cell? (ad.add (i.toNat * 2 + j)) = some u := hc0
  obtain rfl := k74_open hK
  exact ⟨ad, e, hc 0 _ rfl, by rw [← add_field _ _ 1 (by omega)]; exact hc 1 _ rfl⟩

/-! #### struct type 76 -/
structure S76 where
  f0 : S74
  f1 : S74
  f2 : Int
def z76 : S76 := ⟨z74, z74, (0 : Int)⟩
def k76 : Kd S76 := Kd.iso (Kd.pair k74 (Kd.pair k74 (Kd.int .i64))) (fun x : S76 => (x.f0, x.f1, x.f2))
theorem k76_open {w : World} {x : S76} {cs : List Value} (h : k76.K w x cs) : cs = [.int .u64 x.f0.f0, .int .u64 x.f0.f1, .int .u64 x.f1.f0, .int .u64 x.f1.f1, .int .i64 x.f2] := by
  obtain ⟨_, _, rfl, s0, ⟨_, _, rfl, s2, rfl⟩⟩ := h
  obtain rfl := k74_open s0
  obtain rfl := k74_open s2
  exact rfl
theorem k76_openM {w : World} {base : Nat} {ok : Nat → Prop} {x : S76} {cs : List Value} (h : k76.M w base ok x cs) : cs = [.int .u64 x.f0.f0, .int .u64 x.f0.f1, .int .u64 x.f1.f0, .int .u64 x.f1.f1, .int .i64 x.f2] := by
  obtain ⟨_, _, rfl, s0, ⟨_, _, rfl, s2, rfl⟩⟩ := h
  obtain rfl := k74_openM s0
  obtain rfl := k74_openM s2
  exact rfl
theorem k76_mk (w : World) (x : S76)  : k76.K w x [.int .u64 x.f0.f0, .int .u64 x.f0.f1, .int .u64 x.f1.f0, .int .u64 x.f1.f1, .int .i64 x.f2] := ⟨[.int .u64 x.f0.f0, .int .u64 x.f0.f1], [.int .u64 x.f1.f0, .int .u64 x.f1.f1, .int .i64 x.f2], rfl, (k74_mk w x.f0 ), ⟨[.int .u64 x.f1.f0, .int .u64 x.f1.f1], [.int .i64 x.f2], rfl, (k74_mk w x.f1 ), rfl⟩⟩
theorem k76_mkM (w : World) (base : Nat) (ok : Nat → Prop) (x : S76)  : k76.M w base ok x [.int .u64 x.f0.f0, .int .u64 x.f0.f1, .int .u64 x.f1.f0, .int .u64 x.f1.f1, .int .i64 x.f2] := ⟨[.int .u64 x.f0.f0, .int .u64 x.f0.f1], [.int .u64 x.f1.f0, .int .u64 x.f1.f1, .int .i64 x.f2], rfl, (k74_mkM w base ok x.f0 ), ⟨[.int .u64 x.f1.f0, .int .u64 x.f1.f1], [.int .i64 x.f2], rfl, (k74_mkM w base ok x.f1 ), rfl⟩⟩
def rd_T76 (xs : List S76) (i : Int) : S76 := xs.getD i.toNat z76
theorem at_T76 {w : World} {A : Option Addr} {n : Nat} {xs : List S76} (h : Kd.C k76 w A n xs) (i : Int) (h0 : 0 ≤ i) (h1 : i < n) : ∃ ad , A = some ad ∧ w.cell? (ad.add (i.toNat * 5)) = some (.int .u64 (rd_T76 xs i).f0.f0) ∧ w.cell? ⟨(ad.add (i.toNat * 5)).block, (ad.add (i.toNat * 5)).off + 1, none⟩ = some (.int .u64 (rd_T76 xs i).f0.f1) ∧ w.cell? ⟨(ad.add (i.toNat * 5)).block, (ad.add (i.toNat * 5)).off + 2, none⟩ = some (.int .u64 (rd_T76 xs i).f1.f0) ∧ w.cell? ⟨(ad.add (i.toNat * 5)).block, (ad.add (i.toNat * 5)).off + 3, none⟩ = some (.int .u64 (rd_T76 xs i).f1.f1) ∧ w.cell? ⟨(ad.add (i.toNat * 5)).block, (ad.add (i.toNat * 5)).off + 4, none⟩ = some (.int .i64 (rd_T76 xs i).f2) := by
  obtain ⟨ad, c, e, _, hK, hc0⟩ := Kd.C_get h z76 i h0 h1
  have hc : ∀ j u, c[j]? = some u → w.cell? (ad.add (i.toNat * 5 + j)) = some u := hc0
  obtain rfl := k76_open hK
  exact ⟨ad, e, hc 0 _ rfl, by rw [← add_field _ _ 1 (by omega)]; exact hc 1 _ rfl, by rw [← add_field _ _ 2 (by omega)]; exact hc 2 _ rfl, by rw [← add_field _ _ 3 (by omega)]; exact hc 3 _ rfl, by rw [← add_field _ _ 4 (by omega)]; exact hc 4 _ rfl⟩

end Go.Proofs.YtgfjodldjaojhaaGreatDoor.POrd
