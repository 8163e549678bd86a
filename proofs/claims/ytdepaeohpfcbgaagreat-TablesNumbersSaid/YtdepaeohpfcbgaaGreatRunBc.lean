/- The runs of remembered calls, by the kernel (no condition). -/
import Derived.Test.YtdepaeohpfcbgaaGreatMemoB
import Derived.KernelRfl
namespace Go.Proofs.YtdepaeohpfcbgaaGreat
open Go.Eng
set_option maxRecDepth 100000
theorem runB6 : mmB6.shows lg (ev SSB6 mmB6.g mmB6.xs ⟨hOf mmB6.l0 .leaf, mmB6.N, gOf lg⟩) = true := by kernel_rfl
theorem runB8 : mmB8.shows lg (ev SSB8 mmB8.g mmB8.xs ⟨hOf mmB8.l0 .leaf, mmB8.N, gOf lg⟩) = true := by kernel_rfl
theorem runB13 : mmB13.shows lg (ev SSB13 mmB13.g mmB13.xs ⟨hOf mmB13.l0 .leaf, mmB13.N, gOf lg⟩) = true := by kernel_rfl
theorem runB15 : mmB15.shows lg (ev SSB15 mmB15.g mmB15.xs ⟨hOf mmB15.l0 .leaf, mmB15.N, gOf lg⟩) = true := by kernel_rfl
theorem runB17 : mmB17.shows lg (ev SSB17 mmB17.g mmB17.xs ⟨hOf mmB17.l0 .leaf, mmB17.N, gOf lg⟩) = true := by kernel_rfl
end Go.Proofs.YtdepaeohpfcbgaaGreat
