/- MatchBest. -/
import Derived.Test.YtojegdhjkcllfaaGreatDoorBkMemoS
import Derived.KernelRfl
namespace Go.Eng.Cons
open Go.Eng
set_option maxRecDepth 100000
theorem l1okS6:mmS6.l1ok=true:=by kernel_rfl
theorem runS6 [Far]:mmS6.shows lg (ev SSS6 mmS6.g mmS6.xs ⟨hOf mmS6.l0 .leaf,mmS6.N,gOf lg⟩)=true:=by kernel_rfl
theorem l1okS9:mmS9.l1ok=true:=by kernel_rfl
theorem runS9 [Far]:mmS9.shows lg (ev SSS9 mmS9.g mmS9.xs ⟨hOf mmS9.l0 .leaf,mmS9.N,gOf lg⟩)=true:=by kernel_rfl
theorem l1okS13:mmS13.l1ok=true:=by kernel_rfl
theorem runS13 [Far]:mmS13.shows lg (ev SSS13 mmS13.g mmS13.xs ⟨hOf mmS13.l0 .leaf,mmS13.N,gOf lg⟩)=true:=by kernel_rfl
theorem l1okS15:mmS15.l1ok=true:=by kernel_rfl
theorem runS15 [Far]:mmS15.shows lg (ev SSS15 mmS15.g mmS15.xs ⟨hOf mmS15.l0 .leaf,mmS15.N,gOf lg⟩)=true:=by kernel_rfl
theorem l1okS16:mmS16.l1ok=true:=by kernel_rfl
theorem runS16 [Far]:mmS16.shows lg (ev SSS16 mmS16.g mmS16.xs ⟨hOf mmS16.l0 .leaf,mmS16.N,gOf lg⟩)=true:=by kernel_rfl
end Go.Eng.Cons
