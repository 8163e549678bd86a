/- MatchBest. -/
import Derived.Test.YtojegdhjkcllfaaGreatDoorBkB
namespace Go.Eng.Cons
open Go.RowKit Go.Eng
set_option linter.all false
set_option maxRecDepth 100000
theorem step_24:AllI L_step 24 6:=by refine⟨?_,?_,?_,?_,?_,?_,trivial⟩<;>intro _ _ _<;>kernel_rfl
theorem step_30:AllI L_step 30 6:=by refine⟨?_,?_,?_,?_,?_,?_,trivial⟩<;>intro _ _ _<;>kernel_rfl
theorem step_36:AllI L_step 36 6:=by refine⟨?_,?_,?_,?_,?_,?_,trivial⟩<;>intro _ _ _<;>kernel_rfl
theorem step_42:AllI L_step 42 6:=by refine⟨?_,?_,?_,?_,?_,?_,trivial⟩<;>intro _ _ _<;>kernel_rfl
theorem step_48:AllI L_step 48 6:=by refine⟨?_,?_,?_,?_,?_,?_,trivial⟩<;>intro _ _ _<;>kernel_rfl
theorem step_54:AllI L_step 54 6:=by refine⟨?_,?_,?_,?_,?_,?_,trivial⟩<;>intro _ _ _<;>kernel_rfl
theorem step_60:AllI L_step 60 6:=by refine⟨?_,?_,?_,?_,?_,?_,trivial⟩<;>intro _ _ _<;>kernel_rfl
theorem step_66:AllI L_step 66 6:=by refine⟨?_,?_,?_,?_,?_,?_,trivial⟩<;>intro _ _ _<;>kernel_rfl
theorem step_72:AllI L_step 72 6:=by refine⟨?_,?_,?_,?_,?_,?_,trivial⟩<;>intro _ _ _<;>kernel_rfl
theorem step_78:AllI L_step 78 6:=by refine⟨?_,?_,?_,?_,?_,?_,trivial⟩<;>intro _ _ _<;>kernel_rfl
theorem step_84:AllI L_step 84 6:=by refine⟨?_,?_,?_,?_,?_,?_,trivial⟩<;>intro _ _ _<;>kernel_rfl
theorem step_90:AllI L_step 90 6:=by refine⟨?_,?_,?_,?_,?_,?_,trivial⟩<;>intro _ _ _<;>kernel_rfl
end Go.Eng.Cons
