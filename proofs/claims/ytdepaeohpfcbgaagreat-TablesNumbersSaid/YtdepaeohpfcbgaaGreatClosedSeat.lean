/- Closed facts of the seat's program (no condition). -/
import Derived.Test.YtdepaeohpfcbgaaGreatRows
import Derived.JoinedOf
import Derived.KernelRfl
namespace Go.Proofs.YtdepaeohpfcbgaaGreat
open Go
set_option maxRecDepth 100000
theorem and_mk {a b : Bool} (h : a = true) (k : b = true) : (a && b) = true := by rw [h, k]; rfl
theorem seat_laidOut : laidOutB Go.Proofs.Tryz.prog = true := by kernel_rfl
theorem seat_mapsRowed : mapsRowed Go.Proofs.Tryz.prog = true := by kernel_rfl
theorem seat_stops : (Go.Proofs.Tryz.prog.stops == []) = true := by kernel_rfl
theorem seat_stopKnobs : (Go.Proofs.Tryz.prog.stopKnobs == []) = true := by kernel_rfl
end Go.Proofs.YtdepaeohpfcbgaaGreat
