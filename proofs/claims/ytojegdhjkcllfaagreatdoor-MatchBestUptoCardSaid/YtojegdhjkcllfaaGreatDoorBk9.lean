/- MatchBest. -/
import Derived.Test.YtojegdhjkcllfaaGreatDoorBkB
namespace Go.Eng.Cons
open Go.RowKit Go.Eng
set_option linter.all false
set_option maxRecDepth 100000
theorem hits1_0:AllI L_hits1 0 3:=by refine⟨?_,?_,?_,trivial⟩<;>intro _ _ _<;>kernel_rfl
theorem hits2_0:AllI L_hits2 0 2:=by refine⟨?_,?_,trivial⟩<;>intro _ _ _<;>kernel_rfl
theorem hits3_0:AllI L_hits3 0 2:=by refine⟨?_,?_,trivial⟩<;>intro _ _ _<;>kernel_rfl
theorem hits4_0:AllI L_hits4 0 6:=by refine⟨?_,?_,?_,?_,?_,?_,trivial⟩<;>intro _ _ _<;>kernel_rfl
theorem hits4_6:AllI L_hits4 6 4:=by refine⟨?_,?_,?_,?_,trivial⟩<;>intro _ _ _<;>kernel_rfl
theorem who_0:AllI L_who 0 6:=by refine⟨?_,?_,?_,?_,?_,?_,trivial⟩<;>intro _ _ _<;>kernel_rfl
theorem who_6:AllI L_who 6 6:=by refine⟨?_,?_,?_,?_,?_,?_,trivial⟩<;>intro _ _ _<;>kernel_rfl
theorem who_12:AllI L_who 12 6:=by refine⟨?_,?_,?_,?_,?_,?_,trivial⟩<;>intro _ _ _<;>kernel_rfl
theorem who_18:AllI L_who 18 6:=by refine⟨?_,?_,?_,?_,?_,?_,trivial⟩<;>intro _ _ _<;>kernel_rfl
theorem who_24:AllI L_who 24 6:=by refine⟨?_,?_,?_,?_,?_,?_,trivial⟩<;>intro _ _ _<;>kernel_rfl
theorem who_30:AllI L_who 30 6:=by refine⟨?_,?_,?_,?_,?_,?_,trivial⟩<;>intro _ _ _<;>kernel_rfl
theorem who_36:AllI L_who 36 6:=by refine⟨?_,?_,?_,?_,?_,?_,trivial⟩<;>intro _ _ _<;>kernel_rfl
theorem who_42:AllI L_who 42 4:=by refine⟨?_,?_,?_,?_,trivial⟩<;>intro _ _ _<;>kernel_rfl
theorem allK_0:AllI L_allK 0 6:=by refine⟨?_,?_,?_,?_,?_,?_,trivial⟩<;>intro _ _ _<;>kernel_rfl
theorem allK_6:AllI L_allK 6 6:=by refine⟨?_,?_,?_,?_,?_,?_,trivial⟩<;>intro _ _ _<;>kernel_rfl
end Go.Eng.Cons
