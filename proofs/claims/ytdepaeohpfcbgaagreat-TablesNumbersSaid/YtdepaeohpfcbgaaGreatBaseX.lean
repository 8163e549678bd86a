/- The seat's tables for the engine; one function on texts by its contract (no condition). -/
import Derived.Test.YtdepaeohpfcbgaaGreatEngD
import Derived.Test.YtdepaeohpfcbgaaGreatProg
import Derived.Tactics
import Derived.Tactics2
import Derived.StillTactics
import Derived.LoopTactic
import Derived.WalkKit
import Derived.KernelRfl
import Derived.Laws.Slices
import Derived.WalkSpells
import Derived.Lib.Overlaps
namespace Go.Proofs.YtdepaeohpfcbgaaGreat
open Go.RowKit Go.Eng
set_option linter.all false
set_option maxRecDepth 100000
noncomputable abbrev PP := Go.Proofs.Tryz.prog

theorem contains_calls (s p : ByteArray) (w : World) (hs : s.size ≤ 1000) (hp : p.size ≤ 1000) :
    Calls PP 197 #[.string s, .string p] w fun e w' => e = .returned (.bool (contL s.data.toList p.data.toList)) ∧ w' = w := by
  rw [← contB_eq]
  go_enter Tryz.func197, Tryz.ntmps197
  go_wp2
  go_loop [5] (fun i => ∃ k : Nat, k ≤ s.size + 1 ∧ i = .int .i64 k ∧ contB s p k = false) (fun i => s.size + 1 - (intOf i).toNat)
  case atStart => exact ⟨0, Nat.zero_le _, rfl, rfl⟩
  case round =>
    obtain ⟨k, hk, rfl, hno⟩ := hrel
    go_wp2
    · rename_i he _
      go_ret
      exact ⟨by rw [contB_yes (by omega) he]; rfl, rfl⟩
    · rename_i he
      exact ⟨⟨k + 1, by omega, by simp, contB_step hno he⟩, by simp [intOf]; omega⟩
    · go_ret
      exact ⟨by rw [contB_no hno (by omega)]; rfl, rfl⟩

theorem names : PP.funcs.toList.all (fun f => !(f.name == "runtime.NumGoroutine")) = true := by kernel_rfl
theorem mixed : PP.follows .mixedOrders = true := by kernel_rfl
theorem run_overlaps (w : World) (a b : Addr) (la ca lb cb : Nat) (tA tB : TypeId) (kA kB : Nat) (hne : a.block ≠ b.block) (hsa : w.shape? a.block = some (tA, kA)) (hsb : w.shape? b.block = some (tB, kB)) (hkB : kB ≠ 0)
    (hfa : w.frozen? a = false) (hfe : w.frozen? { block := a.block, off := kA } = false) : (callFunc 88 #[.slice (some a) la ca, .slice (some b) lb cb]).run PP w = .ok (.value (.bool false)) w := by
  rw [run_callFunc_extern Tryz.func88 (by kernel_rfl) (by kernel_rfl) (by kernel_rfl) (e := Extern.SlicesOverlaps.overlaps #[52, 52] #[4]) (by kernel_rfl),
    Lib.run_overlaps_apart w 52 4 47 Tryz.underlying52 4 Tryz.sizeOf47 a b la ca lb cb hne tA tB kA kB hsa hsb hkB hfa hfe]
  rfl
/-- The methods that are called through an interface. -/
def meths : List (Nat × String × Nat) := [(23, "Put", 10), (23, "Set", 11), (23, "Len", 12), (23, "Find", 14), (23, "All", 244), (23, "Clear", 245), (23, "Drop", 246), (23, "Get", 247)]
theorem meth0 (v : Value) (w : World) : (Go.method (PP.types.size + Made.depth) 23 v "Put").run PP w = .ok (10, v) w := by kernel_rfl
theorem meth1 (v : Value) (w : World) : (Go.method (PP.types.size + Made.depth) 23 v "Set").run PP w = .ok (11, v) w := by kernel_rfl
theorem meth2 (v : Value) (w : World) : (Go.method (PP.types.size + Made.depth) 23 v "Len").run PP w = .ok (12, v) w := by kernel_rfl
theorem meth3 (v : Value) (w : World) : (Go.method (PP.types.size + Made.depth) 23 v "Find").run PP w = .ok (14, v) w := by kernel_rfl
theorem meth4 (v : Value) (w : World) : (Go.method (PP.types.size + Made.depth) 23 v "All").run PP w = .ok (244, v) w := by kernel_rfl
theorem meth5 (v : Value) (w : World) : (Go.method (PP.types.size + Made.depth) 23 v "Clear").run PP w = .ok (245, v) w := by kernel_rfl
theorem meth6 (v : Value) (w : World) : (Go.method (PP.types.size + Made.depth) 23 v "Drop").run PP w = .ok (246, v) w := by kernel_rfl
theorem meth7 (v : Value) (w : World) : (Go.method (PP.types.size + Made.depth) 23 v "Get").run PP w = .ok (247, v) w := by kernel_rfl
theorem meths_ok : ∀ m ∈ meths, ∀ (v : Value) (w : World), (Go.method (PP.types.size + Made.depth) m.1 v m.2.1).run PP w = .ok (m.2.2, v) w := by
  intro m hm v w
  simp only [meths, List.mem_cons, List.mem_nil_iff, or_false] at hm
  rcases hm with rfl | rfl | rfl | rfl | rfl | rfl | rfl | rfl
  · exact meth0 v w
  · exact meth1 v w
  · exact meth2 v w
  · exact meth3 v w
  · exact meth4 v w
  · exact meth5 v w
  · exact meth6 v w
  · exact meth7 v w
def methOf (t : TypeId) (s : String) : Option FuncId := (meths.find? fun m => Nat.beq m.1 t && m.2.1 == s).map (·.2.2)
theorem methOf_ok (t : TypeId) (s : String) (f : FuncId) (h : methOf t s = some f) (v : Value) (w : World) : (Go.method (PP.types.size + Made.depth) t v s).run PP w = .ok (f, v) w := by
  unfold methOf at h
  obtain ⟨m, hm, rfl⟩ := Option.map_eq_some_iff.1 h
  have h1 := List.find?_some hm
  simp only [Bool.and_eq_true, beq_iff_eq] at h1
  have h2 := meths_ok m (List.mem_of_find?_eq_some hm) v w
  rw [Nat.eq_of_beq_eq_true h1.1, h1.2] at h2
  exact h2
noncomputable def TT : TO PP := { TOof PP with
  meth := methOf
  hmeth := methOf_ok
  ov := fun g => Nat.beq g 88
  hov := fun g hg w a b la ca lb cb tA tB kA kB h1 h2 h3 h4 h5 h6 => by
    have := Nat.eq_of_beq_eq_true hg; subst this
    exact run_overlaps w a b la ca lb cb tA tB kA kB h1 h2 h3 h4 h5 h6 }
noncomputable def FF : FTab := FFof PP
theorem FF_ok : FTabOk PP FF := FFof_ok names
theorem b197 : (match FF 197 with | some _ => true | none => false) = true := by kernel_rfl
theorem ent {g : Nat} (h : (match FF g with | some _ => true | none => false) = true) : Enters PP g := by
  cases hf : FF g with
  | none => rw [hf] at h; cases h
  | some fi => exact (FF_ok g fi hf).1
noncomputable def S0 : Oracle := sCont 197 noS
theorem S0_ok [Far] : CallOk PP S0 := sCont_ok (noS_ok PP) (ent b197) (fun s p w h1 h2 => contains_calls s p w h1 h2)
noncomputable def ev (S : Oracle) : Oracle := evCall TT FF (evDraw TT) S 100000 40
theorem ev_ok [Far] {S : Oracle} (hS : CallOk PP S) : CallOk PP (ev S) := evCall_ok TT FF_ok (fun C Y hC hY => evDraw_ok mixed TT hC hY) hS 100000 40
def lg : List (Nat × List IV) := []
end Go.Proofs.YtdepaeohpfcbgaaGreat
