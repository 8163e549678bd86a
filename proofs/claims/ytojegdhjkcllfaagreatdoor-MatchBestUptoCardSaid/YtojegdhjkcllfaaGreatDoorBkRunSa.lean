/- MatchBest. -/
import Derived.Test.YtojegdhjkcllfaaGreatDoorBkMemoS
import Derived.KernelRfl
namespace Go.Eng.Cons
open Go.Eng
set_option maxRecDepth 100000
theorem l1okS0:mmS0.l1ok=true:=by kernel_rfl
theorem runS0 [Far]:mmS0.shows lg (ev SSS0 mmS0.g mmS0.xs ⟨hOf mmS0.l0 .leaf,mmS0.N,gOf lg⟩)=true:=by kernel_rfl
theorem l1okS1:mmS1.l1ok=true:=by kernel_rfl
theorem runS1 [Far]:mmS1.shows lg (ev SSS1 mmS1.g mmS1.xs ⟨hOf mmS1.l0 .leaf,mmS1.N,gOf lg⟩)=true:=by kernel_rfl
theorem l1okS8:mmS8.l1ok=true:=by kernel_rfl
theorem runS8 [Far]:mmS8.shows lg (ev SSS8 mmS8.g mmS8.xs ⟨hOf mmS8.l0 .leaf,mmS8.N,gOf lg⟩)=true:=by kernel_rfl
theorem l1okS12:mmS12.l1ok=true:=by kernel_rfl
theorem runS12 [Far]:mmS12.shows lg (ev SSS12 mmS12.g mmS12.xs ⟨hOf mmS12.l0 .leaf,mmS12.N,gOf lg⟩)=true:=by kernel_rfl
end Go.Eng.Cons
