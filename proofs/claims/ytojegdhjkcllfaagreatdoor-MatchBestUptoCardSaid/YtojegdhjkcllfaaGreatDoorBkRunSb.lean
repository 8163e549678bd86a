/- MatchBest. -/
import Derived.Test.YtojegdhjkcllfaaGreatDoorBkMemoS
import Derived.KernelRfl
namespace Go.Eng.Cons
open Go.Eng
set_option maxRecDepth 100000
theorem l1okS2:mmS2.l1ok=true:=by kernel_rfl
theorem runS2 [Far]:mmS2.shows lg (ev SSS2 mmS2.g mmS2.xs ⟨hOf mmS2.l0 .leaf,mmS2.N,gOf lg⟩)=true:=by kernel_rfl
theorem l1okS3:mmS3.l1ok=true:=by kernel_rfl
theorem runS3 [Far]:mmS3.shows lg (ev SSS3 mmS3.g mmS3.xs ⟨hOf mmS3.l0 .leaf,mmS3.N,gOf lg⟩)=true:=by kernel_rfl
theorem l1okS7:mmS7.l1ok=true:=by kernel_rfl
theorem runS7 [Far]:mmS7.shows lg (ev SSS7 mmS7.g mmS7.xs ⟨hOf mmS7.l0 .leaf,mmS7.N,gOf lg⟩)=true:=by kernel_rfl
theorem l1okS11:mmS11.l1ok=true:=by kernel_rfl
theorem runS11 [Far]:mmS11.shows lg (ev SSS11 mmS11.g mmS11.xs ⟨hOf mmS11.l0 .leaf,mmS11.N,gOf lg⟩)=true:=by kernel_rfl
end Go.Eng.Cons
