/- MatchBest. -/
import Derived.Test.YtojegdhjkcllfaaGreatDoorBkB
namespace Go.Eng.Cons
open Go.RowKit Go.Eng
set_option linter.all false
set_option maxRecDepth 100000
theorem tables_12:AllI L_tables 12 6:=by refine⟨?_,?_,?_,?_,?_,?_,trivial⟩<;>intro _ _ _<;>kernel_rfl
theorem tables_18:AllI L_tables 18 6:=by refine⟨?_,?_,?_,?_,?_,?_,trivial⟩<;>intro _ _ _<;>kernel_rfl
theorem tables_24:AllI L_tables 24 6:=by refine⟨?_,?_,?_,?_,?_,?_,trivial⟩<;>intro _ _ _<;>kernel_rfl
theorem tables_30:AllI L_tables 30 6:=by refine⟨?_,?_,?_,?_,?_,?_,trivial⟩<;>intro _ _ _<;>kernel_rfl
theorem tables_36:AllI L_tables 36 6:=by refine⟨?_,?_,?_,?_,?_,?_,trivial⟩<;>intro _ _ _<;>kernel_rfl
theorem tables_42:AllI L_tables 42 4:=by refine⟨?_,?_,?_,?_,trivial⟩<;>intro _ _ _<;>kernel_rfl
theorem test_0:AllI L_test 0 6:=by refine⟨?_,?_,?_,?_,?_,?_,trivial⟩<;>intro _ _ _<;>kernel_rfl
theorem test_6:AllI L_test 6 6:=by refine⟨?_,?_,?_,?_,?_,?_,trivial⟩<;>intro _ _ _<;>kernel_rfl
theorem test_12:AllI L_test 12 6:=by refine⟨?_,?_,?_,?_,?_,?_,trivial⟩<;>intro _ _ _<;>kernel_rfl
theorem test_18:AllI L_test 18 6:=by refine⟨?_,?_,?_,?_,?_,?_,trivial⟩<;>intro _ _ _<;>kernel_rfl
theorem test_24:AllI L_test 24 6:=by refine⟨?_,?_,?_,?_,?_,?_,trivial⟩<;>intro _ _ _<;>kernel_rfl
theorem test_30:AllI L_test 30 6:=by refine⟨?_,?_,?_,?_,?_,?_,trivial⟩<;>intro _ _ _<;>kernel_rfl
end Go.Eng.Cons
