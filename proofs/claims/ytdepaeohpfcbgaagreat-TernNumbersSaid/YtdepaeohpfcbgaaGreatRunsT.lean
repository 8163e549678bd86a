/- The remembered calls are answered rightly (no condition). -/
import Derived.Test.YtdepaeohpfcbgaaGreatRunTa
import Derived.Test.YtdepaeohpfcbgaaGreatRunTb
import Derived.Test.YtdepaeohpfcbgaaGreatRunTc
import Derived.Test.YtdepaeohpfcbgaaGreatRunTd
namespace Go.Proofs.YtdepaeohpfcbgaaGreat
open Go.Eng
variable [F : Far]
theorem SIT0_ok : CallOk PP SIT0 := S0_ok
theorem SBT_ok : CallOk PP SBT := memoI_ok (fun _ => ev_ok SIT0_ok) SIT0_ok insBT0 insAT0 insRT0
theorem SST0_ok : CallOk PP SST0 := SBT_ok
theorem SST1_ok : CallOk PP SST1 := SBT_ok
theorem SST2_ok : CallOk PP SST2 := SBT_ok
theorem SST3_ok : CallOk PP SST3 := SBT_ok
theorem SST4_ok : CallOk PP SST4 := SBT_ok
theorem SST5_ok : CallOk PP SST5 := SBT_ok
theorem SST6_ok : CallOk PP SST6 := (memoH_ok (fun _ => ev_ok SST0_ok) (memoH_ok (fun _ => ev_ok SST1_ok) (memoH_ok (fun _ => ev_ok SST2_ok) (memoH_ok (fun _ => ev_ok SST3_ok) (memoH_ok (fun _ => ev_ok SST4_ok) (memoH_ok (fun _ => ev_ok SST5_ok) SBT_ok runT5) runT4) runT3) runT2) runT1) runT0)
end Go.Proofs.YtdepaeohpfcbgaaGreat
