/- MatchBest. -/
import Derived.Test.YtojegdhjkcllfaaGreatDoorBkB
namespace Go.Eng.Cons
open Go.RowKit Go.Eng
set_option linter.all false
set_option maxRecDepth 100000
theorem states_48:AllI L_states 48 6:=by refine⟨?_,?_,?_,?_,?_,?_,trivial⟩<;>intro _ _ _<;>kernel_rfl
theorem states_54:AllI L_states 54 6:=by refine⟨?_,?_,?_,?_,?_,?_,trivial⟩<;>intro _ _ _<;>kernel_rfl
theorem states_60:AllI L_states 60 6:=by refine⟨?_,?_,?_,?_,?_,?_,trivial⟩<;>intro _ _ _<;>kernel_rfl
theorem states_66:AllI L_states 66 3:=by refine⟨?_,?_,?_,trivial⟩<;>intro _ _ _<;>kernel_rfl
theorem Check_0:AllI L_Check 0 6:=by refine⟨?_,?_,?_,?_,?_,?_,trivial⟩<;>intro _ _ _<;>kernel_rfl
theorem Check_6:AllI L_Check 6 3:=by refine⟨?_,?_,?_,trivial⟩<;>intro _ _ _<;>kernel_rfl
theorem Widths_0:AllI L_Widths 0 4:=by refine⟨?_,?_,?_,?_,trivial⟩<;>intro _ _ _<;>kernel_rfl
theorem kinds_0:AllI L_kinds 0 2:=by refine⟨?_,?_,trivial⟩<;>intro _ _ _<;>kernel_rfl
theorem of_0:AllI L_of 0 6:=by refine⟨?_,?_,?_,?_,?_,?_,trivial⟩<;>intro _ _ _<;>kernel_rfl
theorem of_6:AllI L_of 6 6:=by refine⟨?_,?_,?_,?_,?_,?_,trivial⟩<;>intro _ _ _<;>kernel_rfl
theorem of_12:AllI L_of 12 2:=by refine⟨?_,?_,trivial⟩<;>intro _ _ _<;>kernel_rfl
theorem ones_0:AllI L_ones 0 2:=by refine⟨?_,?_,trivial⟩<;>intro _ _ _<;>kernel_rfl
theorem may1_0:AllI L_may1 0 6:=by refine⟨?_,?_,?_,?_,?_,?_,trivial⟩<;>intro _ _ _<;>kernel_rfl
theorem may1_6:AllI L_may1 6 2:=by refine⟨?_,?_,trivial⟩<;>intro _ _ _<;>kernel_rfl
theorem may2_0:AllI L_may2 0 5:=by refine⟨?_,?_,?_,?_,?_,trivial⟩<;>intro _ _ _<;>kernel_rfl
theorem may3_0:AllI L_may3 0 4:=by refine⟨?_,?_,?_,?_,trivial⟩<;>intro _ _ _<;>kernel_rfl
theorem may4_0:AllI L_may4 0 6:=by refine⟨?_,?_,?_,?_,?_,?_,trivial⟩<;>intro _ _ _<;>kernel_rfl
end Go.Eng.Cons
