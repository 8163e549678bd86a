/- The runs of remembered calls, by the kernel (no condition). -/
import Derived.Test.YtdepaeohpfcbgaaGreatMemoT
import Derived.KernelRfl
namespace Go.Proofs.YtdepaeohpfcbgaaGreat
open Go.Eng
set_option maxRecDepth 100000
theorem runT0 : mmT0.shows lg (ev SST0 mmT0.g mmT0.xs ⟨hOf mmT0.l0 .leaf, mmT0.N, gOf lg⟩) = true := by kernel_rfl
end Go.Proofs.YtdepaeohpfcbgaaGreat
