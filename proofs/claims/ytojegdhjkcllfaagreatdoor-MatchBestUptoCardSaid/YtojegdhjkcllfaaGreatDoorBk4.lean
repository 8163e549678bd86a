/- MatchBest. -/
import Derived.Test.YtojegdhjkcllfaaGreatDoorBkB
namespace Go.Eng.Cons
open Go.RowKit Go.Eng
set_option linter.all false
set_option maxRecDepth 100000
theorem step_168:AllI L_step 168 6:=by refine⟨?_,?_,?_,?_,?_,?_,trivial⟩<;>intro _ _ _<;>kernel_rfl
theorem step_174:AllI L_step 174 6:=by refine⟨?_,?_,?_,?_,?_,?_,trivial⟩<;>intro _ _ _<;>kernel_rfl
theorem step_180:AllI L_step 180 6:=by refine⟨?_,?_,?_,?_,?_,?_,trivial⟩<;>intro _ _ _<;>kernel_rfl
theorem step_186:AllI L_step 186 6:=by refine⟨?_,?_,?_,?_,?_,?_,trivial⟩<;>intro _ _ _<;>kernel_rfl
theorem step_192:AllI L_step 192 6:=by refine⟨?_,?_,?_,?_,?_,?_,trivial⟩<;>intro _ _ _<;>kernel_rfl
theorem step_198:AllI L_step 198 6:=by refine⟨?_,?_,?_,?_,?_,?_,trivial⟩<;>intro _ _ _<;>kernel_rfl
theorem step_204:AllI L_step 204 6:=by refine⟨?_,?_,?_,?_,?_,?_,trivial⟩<;>intro _ _ _<;>kernel_rfl
theorem step_210:AllI L_step 210 3:=by refine⟨?_,?_,?_,trivial⟩<;>intro _ _ _<;>kernel_rfl
theorem actions_0:AllI L_actions 0 6:=by refine⟨?_,?_,?_,?_,?_,?_,trivial⟩<;>intro _ _ _<;>kernel_rfl
theorem actions_6:AllI L_actions 6 6:=by refine⟨?_,?_,?_,?_,?_,?_,trivial⟩<;>intro _ _ _<;>kernel_rfl
theorem actions_12:AllI L_actions 12 5:=by refine⟨?_,?_,?_,?_,?_,trivial⟩<;>intro _ _ _<;>kernel_rfl
theorem tables_0:AllI L_tables 0 6:=by refine⟨?_,?_,?_,?_,?_,?_,trivial⟩<;>intro _ _ _<;>kernel_rfl
theorem tables_6:AllI L_tables 6 6:=by refine⟨?_,?_,?_,?_,?_,?_,trivial⟩<;>intro _ _ _<;>kernel_rfl
end Go.Eng.Cons
