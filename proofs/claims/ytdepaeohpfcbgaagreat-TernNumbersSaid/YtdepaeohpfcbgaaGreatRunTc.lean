/- The runs of remembered calls, by the kernel (no condition). -/
import Derived.Test.YtdepaeohpfcbgaaGreatMemoT
import Derived.KernelRfl
namespace Go.Proofs.YtdepaeohpfcbgaaGreat
open Go.Eng
set_option maxRecDepth 100000
theorem runT2 : mmT2.shows lg (ev SST2 mmT2.g mmT2.xs ⟨hOf mmT2.l0 .leaf, mmT2.N, gOf lg⟩) = true := by kernel_rfl
theorem runT6 : mmT6.shows lg (ev SST6 mmT6.g mmT6.xs ⟨hOf mmT6.l0 .leaf, mmT6.N, gOf lg⟩) = true := by kernel_rfl
end Go.Proofs.YtdepaeohpfcbgaaGreat
