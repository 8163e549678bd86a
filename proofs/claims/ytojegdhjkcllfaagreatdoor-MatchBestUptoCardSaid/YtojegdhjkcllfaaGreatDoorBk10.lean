/- MatchBest. -/
import Derived.Test.YtojegdhjkcllfaaGreatDoorBkB
namespace Go.Eng.Cons
open Go.RowKit Go.Eng
set_option linter.all false
set_option maxRecDepth 100000
theorem allK_12:AllI L_allK 12 2:=by refine⟨?_,?_,trivial⟩<;>intro _ _ _<;>kernel_rfl
theorem key_0:AllI L_key 0 3:=by refine⟨?_,?_,?_,trivial⟩<;>intro _ _ _<;>kernel_rfl
theorem allH_0:AllI L_allH 0 6:=by refine⟨?_,?_,?_,?_,?_,?_,trivial⟩<;>intro _ _ _<;>kernel_rfl
theorem allH_6:AllI L_allH 6 6:=by refine⟨?_,?_,?_,?_,?_,?_,trivial⟩<;>intro _ _ _<;>kernel_rfl
theorem allH_12:AllI L_allH 12 2:=by refine⟨?_,?_,trivial⟩<;>intro _ _ _<;>kernel_rfl
theorem hits_0:AllI L_hits 0 2:=by refine⟨?_,?_,trivial⟩<;>intro _ _ _<;>kernel_rfl
theorem compI_0:AllI L_compI 0 3:=by refine⟨?_,?_,?_,trivial⟩<;>intro _ _ _<;>kernel_rfl
theorem compU_0:AllI L_compU 0 3:=by refine⟨?_,?_,?_,trivial⟩<;>intro _ _ _<;>kernel_rfl
theorem compB_0:AllI L_compB 0 3:=by refine⟨?_,?_,?_,trivial⟩<;>intro _ _ _<;>kernel_rfl
theorem compM_0:AllI L_compM 0 4:=by refine⟨?_,?_,?_,?_,trivial⟩<;>intro _ _ _<;>kernel_rfl
theorem compL_0:AllI L_compL 0 6:=by refine⟨?_,?_,?_,?_,?_,?_,trivial⟩<;>intro _ _ _<;>kernel_rfl
theorem compL_6:AllI L_compL 6 2:=by refine⟨?_,?_,trivial⟩<;>intro _ _ _<;>kernel_rfl
theorem order_0:AllI L_order 0 3:=by refine⟨?_,?_,?_,trivial⟩<;>intro _ _ _<;>kernel_rfl
theorem hit_0:AllI L_hit 0 6:=by refine⟨?_,?_,?_,?_,?_,?_,trivial⟩<;>intro _ _ _<;>kernel_rfl
theorem hit_6:AllI L_hit 6 3:=by refine⟨?_,?_,?_,trivial⟩<;>intro _ _ _<;>kernel_rfl
theorem best_0:AllI L_best 0 6:=by refine⟨?_,?_,?_,?_,?_,?_,trivial⟩<;>intro _ _ _<;>kernel_rfl
theorem best_6:AllI L_best 6 6:=by refine⟨?_,?_,?_,?_,?_,?_,trivial⟩<;>intro _ _ _<;>kernel_rfl
theorem best_12:AllI L_best 12 5:=by refine⟨?_,?_,?_,?_,?_,trivial⟩<;>intro _ _ _<;>kernel_rfl
end Go.Eng.Cons
