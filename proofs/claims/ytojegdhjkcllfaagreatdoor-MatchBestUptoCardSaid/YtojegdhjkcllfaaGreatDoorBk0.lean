/- MatchBest. -/
import Derived.Test.YtojegdhjkcllfaaGreatDoorBkB
namespace Go.Eng.Cons
open Go.RowKit Go.Eng
set_option linter.all false
set_option maxRecDepth 100000
theorem ixH_0:AllI L_ixH 0 5:=by refine⟨?_,?_,?_,?_,?_,trivial⟩<;>intro _ _ _<;>kernel_rfl
theorem ixA_0:AllI L_ixA 0 5:=by refine⟨?_,?_,?_,?_,?_,trivial⟩<;>intro _ _ _<;>kernel_rfl
theorem ixT_0:AllI L_ixT 0 5:=by refine⟨?_,?_,?_,?_,?_,trivial⟩<;>intro _ _ _<;>kernel_rfl
theorem ixF_0:AllI L_ixF 0 5:=by refine⟨?_,?_,?_,?_,?_,trivial⟩<;>intro _ _ _<;>kernel_rfl
theorem ixK_0:AllI L_ixK 0 5:=by refine⟨?_,?_,?_,?_,?_,trivial⟩<;>intro _ _ _<;>kernel_rfl
theorem ixS_0:AllI L_ixS 0 5:=by refine⟨?_,?_,?_,?_,?_,trivial⟩<;>intro _ _ _<;>kernel_rfl
theorem headerAt_0:AllI L_headerAt 0 1:=by refine⟨?_,trivial⟩<;>intro _ _ _<;>kernel_rfl
theorem actionAt_0:AllI L_actionAt 0 1:=by refine⟨?_,trivial⟩<;>intro _ _ _<;>kernel_rfl
theorem tableAt_0:AllI L_tableAt 0 1:=by refine⟨?_,trivial⟩<;>intro _ _ _<;>kernel_rfl
theorem fieldAt_0:AllI L_fieldAt 0 1:=by refine⟨?_,trivial⟩<;>intro _ _ _<;>kernel_rfl
theorem fieldOf_0:AllI L_fieldOf 0 6:=by refine⟨?_,?_,?_,?_,?_,?_,trivial⟩<;>intro _ _ _<;>kernel_rfl
theorem fits_0:AllI L_fits 0 6:=by refine⟨?_,?_,?_,?_,?_,?_,trivial⟩<;>intro _ _ _<;>kernel_rfl
theorem fits_6:AllI L_fits 6 3:=by refine⟨?_,?_,?_,trivial⟩<;>intro _ _ _<;>kernel_rfl
theorem plain_0:AllI L_plain 0 3:=by refine⟨?_,?_,?_,trivial⟩<;>intro _ _ _<;>kernel_rfl
theorem isName_0:AllI L_isName 0 6:=by refine⟨?_,?_,?_,?_,?_,?_,trivial⟩<;>intro _ _ _<;>kernel_rfl
theorem isName_6:AllI L_isName 6 6:=by refine⟨?_,?_,?_,?_,?_,?_,trivial⟩<;>intro _ _ _<;>kernel_rfl
theorem isName_12:AllI L_isName 12 6:=by refine⟨?_,?_,?_,?_,?_,?_,trivial⟩<;>intro _ _ _<;>kernel_rfl
end Go.Eng.Cons
