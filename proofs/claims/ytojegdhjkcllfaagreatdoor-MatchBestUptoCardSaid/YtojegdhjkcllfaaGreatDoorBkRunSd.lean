/- MatchBest. -/
import Derived.Test.YtojegdhjkcllfaaGreatDoorBkMemoS
import Derived.KernelRfl
namespace Go.Eng.Cons
open Go.Eng
set_option maxRecDepth 100000
theorem l1okS4:mmS4.l1ok=true:=by kernel_rfl
theorem runS4 [Far]:mmS4.shows lg (ev SSS4 mmS4.g mmS4.xs ⟨hOf mmS4.l0 .leaf,mmS4.N,gOf lg⟩)=true:=by kernel_rfl
theorem l1okS5:mmS5.l1ok=true:=by kernel_rfl
theorem runS5 [Far]:mmS5.shows lg (ev SSS5 mmS5.g mmS5.xs ⟨hOf mmS5.l0 .leaf,mmS5.N,gOf lg⟩)=true:=by kernel_rfl
theorem l1okS10:mmS10.l1ok=true:=by kernel_rfl
theorem runS10 [Far]:mmS10.shows lg (ev SSS10 mmS10.g mmS10.xs ⟨hOf mmS10.l0 .leaf,mmS10.N,gOf lg⟩)=true:=by kernel_rfl
theorem l1okS14:mmS14.l1ok=true:=by kernel_rfl
theorem runS14 [Far]:mmS14.shows lg (ev SSS14 mmS14.g mmS14.xs ⟨hOf mmS14.l0 .leaf,mmS14.N,gOf lg⟩)=true:=by kernel_rfl
end Go.Eng.Cons
