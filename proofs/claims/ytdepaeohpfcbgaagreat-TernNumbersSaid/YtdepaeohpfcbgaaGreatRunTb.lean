/- The runs of remembered calls, by the kernel (no condition). -/
import Derived.Test.YtdepaeohpfcbgaaGreatMemoT
import Derived.KernelRfl
namespace Go.Proofs.YtdepaeohpfcbgaaGreat
open Go.Eng
set_option maxRecDepth 100000
theorem runT1 : mmT1.shows lg (ev SST1 mmT1.g mmT1.xs ⟨hOf mmT1.l0 .leaf, mmT1.N, gOf lg⟩) = true := by kernel_rfl
theorem runT5 : mmT5.shows lg (ev SST5 mmT5.g mmT5.xs ⟨hOf mmT5.l0 .leaf, mmT5.N, gOf lg⟩) = true := by kernel_rfl
end Go.Proofs.YtdepaeohpfcbgaaGreat
