/- The runs of remembered calls, by the kernel (no condition). -/
import Derived.Test.YtdepaeohpfcbgaaGreatMemoB
import Derived.KernelRfl
namespace Go.Proofs.YtdepaeohpfcbgaaGreat
open Go.Eng
set_option maxRecDepth 100000
theorem runB2 : mmB2.shows lg (ev SSB2 mmB2.g mmB2.xs ⟨hOf mmB2.l0 .leaf, mmB2.N, gOf lg⟩) = true := by kernel_rfl
theorem runB9 : mmB9.shows lg (ev SSB9 mmB9.g mmB9.xs ⟨hOf mmB9.l0 .leaf, mmB9.N, gOf lg⟩) = true := by kernel_rfl
theorem runB10 : mmB10.shows lg (ev SSB10 mmB10.g mmB10.xs ⟨hOf mmB10.l0 .leaf, mmB10.N, gOf lg⟩) = true := by kernel_rfl
theorem runB11 : mmB11.shows lg (ev SSB11 mmB11.g mmB11.xs ⟨hOf mmB11.l0 .leaf, mmB11.N, gOf lg⟩) = true := by kernel_rfl
theorem runB18 : mmB18.shows lg (ev SSB18 mmB18.g mmB18.xs ⟨hOf mmB18.l0 .leaf, mmB18.N, gOf lg⟩) = true := by kernel_rfl
end Go.Proofs.YtdepaeohpfcbgaaGreat
