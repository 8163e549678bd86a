/- MatchBest. -/
import Derived.Test.YtojegdhjkcllfaaGreatDoorBkB
namespace Go.Eng.Cons
open Go.RowKit Go.Eng
set_option linter.all false
set_option maxRecDepth 100000
theorem test_36:AllI L_test 36 6:=by refine⟨?_,?_,?_,?_,?_,?_,trivial⟩<;>intro _ _ _<;>kernel_rfl
theorem test_42:AllI L_test 42 4:=by refine⟨?_,?_,?_,?_,trivial⟩<;>intro _ _ _<;>kernel_rfl
theorem stage_0:AllI L_stage 0 6:=by refine⟨?_,?_,?_,?_,?_,?_,trivial⟩<;>intro _ _ _<;>kernel_rfl
theorem stage_6:AllI L_stage 6 6:=by refine⟨?_,?_,?_,?_,?_,?_,trivial⟩<;>intro _ _ _<;>kernel_rfl
theorem walkTT_0:AllI L_walkTT 0 6:=by refine⟨?_,?_,?_,?_,?_,?_,trivial⟩<;>intro _ _ _<;>kernel_rfl
theorem walkTT_6:AllI L_walkTT 6 3:=by refine⟨?_,?_,?_,trivial⟩<;>intro _ _ _<;>kernel_rfl
theorem walkTF_0:AllI L_walkTF 0 6:=by refine⟨?_,?_,?_,?_,?_,?_,trivial⟩<;>intro _ _ _<;>kernel_rfl
theorem walkTF_6:AllI L_walkTF 6 6:=by refine⟨?_,?_,?_,?_,?_,?_,trivial⟩<;>intro _ _ _<;>kernel_rfl
theorem walkTF_12:AllI L_walkTF 12 6:=by refine⟨?_,?_,?_,?_,?_,?_,trivial⟩<;>intro _ _ _<;>kernel_rfl
theorem walkTF_18:AllI L_walkTF 18 6:=by refine⟨?_,?_,?_,?_,?_,?_,trivial⟩<;>intro _ _ _<;>kernel_rfl
theorem walkTF_24:AllI L_walkTF 24 4:=by refine⟨?_,?_,?_,?_,trivial⟩<;>intro _ _ _<;>kernel_rfl
theorem tall_0:AllI L_tall 0 3:=by refine⟨?_,?_,?_,trivial⟩<;>intro _ _ _<;>kernel_rfl
theorem walkS_0:AllI L_walkS 0 6:=by refine⟨?_,?_,?_,?_,?_,?_,trivial⟩<;>intro _ _ _<;>kernel_rfl
theorem walkS_6:AllI L_walkS 6 3:=by refine⟨?_,?_,?_,trivial⟩<;>intro _ _ _<;>kernel_rfl
end Go.Eng.Cons
