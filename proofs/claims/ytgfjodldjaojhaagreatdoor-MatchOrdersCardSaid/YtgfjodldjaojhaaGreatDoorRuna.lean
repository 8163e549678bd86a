/- The runs of remembered calls, by the kernel (no condition). -/
import Derived.Test.YtgfjodldjaojhaaGreatDoorMemo
import Derived.KernelRfl
namespace Go.Proofs.YtgfjodldjaojhaaGreatDoor
open Go.Eng
set_option maxRecDepth 100000
theorem run6 : mm6.shows lg (ev SS6 mm6.g mm6.xs ⟨hOf mm6.l0 .leaf, mm6.N, gOf lg⟩) = true := by kernel_rfl
theorem run10 : mm10.shows lg (ev SS10 mm10.g mm10.xs ⟨hOf mm10.l0 .leaf, mm10.N, gOf lg⟩) = true := by kernel_rfl
theorem run13 : mm13.shows lg (ev SS13 mm13.g mm13.xs ⟨hOf mm13.l0 .leaf, mm13.N, gOf lg⟩) = true := by kernel_rfl
end Go.Proofs.YtgfjodldjaojhaaGreatDoor
