/- The runs of remembered calls, by the kernel (no condition). -/
import Derived.Test.YtgfjodldjaojhaaGreatDoorMemo
import Derived.KernelRfl
namespace Go.Proofs.YtgfjodldjaojhaaGreatDoor
open Go.Eng
set_option maxRecDepth 100000
theorem run1 : mm1.shows lg (ev SS1 mm1.g mm1.xs ⟨hOf mm1.l0 .leaf, mm1.N, gOf lg⟩) = true := by kernel_rfl
theorem run5 : mm5.shows lg (ev SS5 mm5.g mm5.xs ⟨hOf mm5.l0 .leaf, mm5.N, gOf lg⟩) = true := by kernel_rfl
theorem run9 : mm9.shows lg (ev SS9 mm9.g mm9.xs ⟨hOf mm9.l0 .leaf, mm9.N, gOf lg⟩) = true := by kernel_rfl
theorem run14 : mm14.shows lg (ev SS14 mm14.g mm14.xs ⟨hOf mm14.l0 .leaf, mm14.N, gOf lg⟩) = true := by kernel_rfl
end Go.Proofs.YtgfjodldjaojhaaGreatDoor
