/- The runs of remembered calls, by the kernel (no condition). -/
import Derived.Test.YtgfjodldjaojhaaGreatDoorMemo
import Derived.KernelRfl
namespace Go.Proofs.YtgfjodldjaojhaaGreatDoor
open Go.Eng
set_option maxRecDepth 100000
theorem run0 : mm0.shows lg (ev SS0 mm0.g mm0.xs ⟨hOf mm0.l0 .leaf, mm0.N, gOf lg⟩) = true := by kernel_rfl
theorem run3 : mm3.shows lg (ev SS3 mm3.g mm3.xs ⟨hOf mm3.l0 .leaf, mm3.N, gOf lg⟩) = true := by kernel_rfl
theorem run7 : mm7.shows lg (ev SS7 mm7.g mm7.xs ⟨hOf mm7.l0 .leaf, mm7.N, gOf lg⟩) = true := by kernel_rfl
theorem run11 : mm11.shows lg (ev SS11 mm11.g mm11.xs ⟨hOf mm11.l0 .leaf, mm11.N, gOf lg⟩) = true := by kernel_rfl
end Go.Proofs.YtgfjodldjaojhaaGreatDoor
