/- The seat's tables for the engine; three functions on texts by their contracts (no condition). -/
import Derived.Test.YtgfjodldjaojhaaGreatDoorEngB
import Derived.Test.YtgfjodldjaojhaaGreatDoorShelf
import Derived.Tactics
import Derived.Tactics2
import Derived.StillTactics
import Derived.LoopTactic
import Derived.WalkKit
import Derived.KernelRfl
import Derived.Laws.Slices
import Derived.WalkSpells
namespace Go.Proofs.YtgfjodldjaojhaaGreatDoor
open Go.RowKit Go.Eng
set_option linter.all false
set_option maxRecDepth 100000
noncomputable abbrev PP := Go.Proofs.Tryz.prog

theorem contains_calls (s p : ByteArray) (w : World) (hs : s.size ≤ 1000) (hp : p.size ≤ 1000) :
    Calls PP 381 #[.string s, .string p] w fun e w' => e = .returned (.bool (contL s.data.toList p.data.toList)) ∧ w' = w := by
  rw [← contB_eq]
  go_enter Tryz.func381, Tryz.ntmps381
  go_wp2
  go_loop [5] (fun i => ∃ k : Nat, k ≤ s.size + 1 ∧ i = .int .i64 k ∧ contB s p k = false) (fun i => s.size + 1 - (intOf i).toNat)
  case atStart => exact ⟨0, Nat.zero_le _, rfl, rfl⟩
  case round =>
    obtain ⟨k, hk, rfl, hno⟩ := hrel
    go_wp2
    · rename_i he _
      go_ret
      exact ⟨by rw [contB_yes (by omega) he]; rfl, rfl⟩
    · rename_i he
      exact ⟨⟨k + 1, by omega, by simp, contB_step hno he⟩, by simp [intOf]; omega⟩
    · go_ret
      exact ⟨by rw [contB_no hno (by omega)]; rfl, rfl⟩

theorem names : PP.funcs.toList.all (fun f => !(f.name == "runtime.NumGoroutine")) = true := by kernel_rfl
theorem mixed : PP.follows .mixedOrders = true := by kernel_rfl
noncomputable def TT : TO PP := TOof PP
noncomputable def FF : FTab := FFof PP
theorem FF_ok : FTabOk PP FF := FFof_ok names
theorem b381 : (match FF 381 with | some _ => true | none => false) = true := by kernel_rfl
theorem b286 : (match FF 286 with | some _ => true | none => false) = true := by kernel_rfl
theorem b96 : (match FF 96 with | some _ => true | none => false) = true := by kernel_rfl
theorem ent {g : Nat} (h : (match FF g with | some _ => true | none => false) = true) : Enters PP g := by
  cases hf : FF g with
  | none => rw [hf] at h; cases h
  | some fi => exact (FF_ok g fi hf).1
noncomputable def S0 : Oracle := sCont 381 (sIdx 286 0 (sJoin 96 noS))
theorem S0_ok : CallOk PP S0 :=
  sCont_ok (sIdx_ok (sJoin_ok (noS_ok PP) (ent b96) (fun bk o c xs sep w h1 h2 h3 h4 h5 => Tryz.strings_Join bk o c xs sep w h1 h2 h3 h4 h5)) (ent b286) (fun s p m w h1 h2 => Tryz.stringslite_Index s p m w h1 h2)) (ent b381) (fun s p w h1 h2 => contains_calls s p w h1 h2)
noncomputable def ev (S : Oracle) : Oracle := evCall TT FF (evDraw TT) S 100000 40
theorem ev_ok {S : Oracle} (hS : CallOk PP S) : CallOk PP (ev S) := evCall_ok TT FF_ok (fun C hC => evDraw_ok mixed TT hC) hS 100000 40
/-- The package variables that the runs look into: math/bits.deBruijn64tab, and internal/bytealg.MaxLen, whatever it is. -/
def tab64 : List Int := [0, 1, 56, 2, 57, 49, 28, 3, 61, 58, 42, 50, 38, 29, 17, 4, 62, 47, 59, 36, 45, 43, 51, 22, 53, 39, 33, 30, 24, 18, 12, 5, 63, 55, 48, 27, 60, 41, 37, 16, 46, 35, 44, 21, 52, 32, 23, 11, 54, 26, 40, 15, 34, 20, 31, 10, 25, 14, 19, 9, 13, 8, 7, 6]
def lg : List (Nat × List IV) := [(7, tab64.map fun n => IV.sc (.int .u8 n)), (0, [.anyi .i64])]
end Go.Proofs.YtgfjodldjaojhaaGreatDoor
