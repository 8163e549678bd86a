/- The runs of remembered calls, by the kernel (no condition). -/
import Derived.Test.YtgfjodldjaojhaaGreatDoorMemo
import Derived.KernelRfl
namespace Go.Proofs.YtgfjodldjaojhaaGreatDoor
open Go.Eng
set_option maxRecDepth 100000
theorem run2 : mm2.shows lg (ev SS2 mm2.g mm2.xs ⟨hOf mm2.l0 .leaf, mm2.N, gOf lg⟩) = true := by kernel_rfl
theorem run4 : mm4.shows lg (ev SS4 mm4.g mm4.xs ⟨hOf mm4.l0 .leaf, mm4.N, gOf lg⟩) = true := by kernel_rfl
theorem run8 : mm8.shows lg (ev SS8 mm8.g mm8.xs ⟨hOf mm8.l0 .leaf, mm8.N, gOf lg⟩) = true := by kernel_rfl
theorem run12 : mm12.shows lg (ev SS12 mm12.g mm12.xs ⟨hOf mm12.l0 .leaf, mm12.N, gOf lg⟩) = true := by kernel_rfl
end Go.Proofs.YtgfjodldjaojhaaGreatDoor
