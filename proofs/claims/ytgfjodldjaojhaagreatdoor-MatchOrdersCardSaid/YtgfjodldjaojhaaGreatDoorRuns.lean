/- The remembered calls are answered rightly (no condition). -/
import Derived.Test.YtgfjodldjaojhaaGreatDoorRuna
import Derived.Test.YtgfjodldjaojhaaGreatDoorRunb
import Derived.Test.YtgfjodldjaojhaaGreatDoorRunc
import Derived.Test.YtgfjodldjaojhaaGreatDoorRund
namespace Go.Proofs.YtgfjodldjaojhaaGreatDoor
open Go.Eng
theorem SS0_ok : CallOk PP SS0 := S0_ok
theorem SS1_ok : CallOk PP SS1 := S0_ok
theorem SS2_ok : CallOk PP SS2 := S0_ok
theorem SS3_ok : CallOk PP SS3 := S0_ok
theorem SS4_ok : CallOk PP SS4 := S0_ok
theorem SS5_ok : CallOk PP SS5 := (memoH_ok (ev_ok SS0_ok) S0_ok run0)
theorem SS6_ok : CallOk PP SS6 := S0_ok
theorem SS7_ok : CallOk PP SS7 := S0_ok
theorem SS8_ok : CallOk PP SS8 := S0_ok
theorem SS9_ok : CallOk PP SS9 := S0_ok
theorem SS10_ok : CallOk PP SS10 := S0_ok
theorem SS11_ok : CallOk PP SS11 := S0_ok
theorem SS12_ok : CallOk PP SS12 := S0_ok
theorem SS13_ok : CallOk PP SS13 := (memoH_ok (ev_ok SS1_ok) (memoH_ok (ev_ok SS2_ok) (memoH_ok (ev_ok SS3_ok) (memoH_ok (ev_ok SS4_ok) (memoH_ok (ev_ok SS5_ok) (memoH_ok (ev_ok SS6_ok) (memoH_ok (ev_ok SS7_ok) (memoH_ok (ev_ok SS8_ok) (memoH_ok (ev_ok SS9_ok) (memoH_ok (ev_ok SS10_ok) (memoH_ok (ev_ok SS11_ok) (memoH_ok (ev_ok SS12_ok) S0_ok run12) run11) run10) run9) run8) run7) run6) run5) run4) run3) run2) run1)
theorem SS14_ok : CallOk PP SS14 := (memoH_ok (ev_ok SS13_ok) S0_ok run13)
end Go.Proofs.YtgfjodldjaojhaaGreatDoor
