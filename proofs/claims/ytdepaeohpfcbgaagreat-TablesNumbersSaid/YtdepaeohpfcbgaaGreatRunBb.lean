/- The runs of remembered calls, by the kernel (no condition). -/
import Derived.Test.YtdepaeohpfcbgaaGreatMemoB
import Derived.KernelRfl
namespace Go.Proofs.YtdepaeohpfcbgaaGreat
open Go.Eng
set_option maxRecDepth 100000
theorem runB1 : mmB1.shows lg (ev SSB1 mmB1.g mmB1.xs ⟨hOf mmB1.l0 .leaf, mmB1.N, gOf lg⟩) = true := by kernel_rfl
theorem runB3 : mmB3.shows lg (ev SSB3 mmB3.g mmB3.xs ⟨hOf mmB3.l0 .leaf, mmB3.N, gOf lg⟩) = true := by kernel_rfl
theorem runB4 : mmB4.shows lg (ev SSB4 mmB4.g mmB4.xs ⟨hOf mmB4.l0 .leaf, mmB4.N, gOf lg⟩) = true := by kernel_rfl
theorem runB14 : mmB14.shows lg (ev SSB14 mmB14.g mmB14.xs ⟨hOf mmB14.l0 .leaf, mmB14.N, gOf lg⟩) = true := by kernel_rfl
theorem runB19 : mmB19.shows lg (ev SSB19 mmB19.g mmB19.xs ⟨hOf mmB19.l0 .leaf, mmB19.N, gOf lg⟩) = true := by kernel_rfl
end Go.Proofs.YtdepaeohpfcbgaaGreat
