/- The remembered calls are answered rightly (no condition). -/
import Derived.Test.YtdepaeohpfcbgaaGreatRunBa
import Derived.Test.YtdepaeohpfcbgaaGreatRunBb
import Derived.Test.YtdepaeohpfcbgaaGreatRunBc
import Derived.Test.YtdepaeohpfcbgaaGreatRunBd
namespace Go.Proofs.YtdepaeohpfcbgaaGreat
open Go.Eng
variable [F : Far]
theorem SIB0_ok : CallOk PP SIB0 := S0_ok
theorem SBB_ok : CallOk PP SBB := memoD_ok (fun _ => ev_ok SIB0_ok) SIB0_ok insBB0 insAB0 insRB0
theorem SSB0_ok : CallOk PP SSB0 := SBB_ok
theorem SSB1_ok : CallOk PP SSB1 := SBB_ok
theorem SSB2_ok : CallOk PP SSB2 := (memoH_ok (fun _ => ev_ok SSB1_ok) SBB_ok runB1)
theorem SSB3_ok : CallOk PP SSB3 := SBB_ok
theorem SSB4_ok : CallOk PP SSB4 := SBB_ok
theorem SSB5_ok : CallOk PP SSB5 := (memoH_ok (fun _ => ev_ok SSB3_ok) SBB_ok runB3)
theorem SSB6_ok : CallOk PP SSB6 := SBB_ok
theorem SSB7_ok : CallOk PP SSB7 := SBB_ok
theorem SSB8_ok : CallOk PP SSB8 := (memoH_ok (fun _ => ev_ok SSB4_ok) SBB_ok runB4)
theorem SSB9_ok : CallOk PP SSB9 := SBB_ok
theorem SSB10_ok : CallOk PP SSB10 := SBB_ok
theorem SSB11_ok : CallOk PP SSB11 := (memoH_ok (fun _ => ev_ok SSB9_ok) SBB_ok runB9)
theorem SSB12_ok : CallOk PP SSB12 := SBB_ok
theorem SSB13_ok : CallOk PP SSB13 := SBB_ok
theorem SSB14_ok : CallOk PP SSB14 := (memoH_ok (fun _ => ev_ok SSB12_ok) SBB_ok runB12)
theorem SSB15_ok : CallOk PP SSB15 := (memoH_ok (fun _ => ev_ok SSB0_ok) SBB_ok runB0)
theorem SSB16_ok : CallOk PP SSB16 := (memoH_ok (fun _ => ev_ok SSB5_ok) (memoH_ok (fun _ => ev_ok SSB6_ok) (memoH_ok (fun _ => ev_ok SSB7_ok) (memoH_ok (fun _ => ev_ok SSB8_ok) SBB_ok runB8) runB7) runB6) runB5)
theorem SSB17_ok : CallOk PP SSB17 := (memoH_ok (fun _ => ev_ok SSB13_ok) (memoH_ok (fun _ => ev_ok SSB14_ok) SBB_ok runB14) runB13)
theorem SSB18_ok : CallOk PP SSB18 := (memoH_ok (fun _ => ev_ok SSB10_ok) (memoH_ok (fun _ => ev_ok SSB11_ok) SBB_ok runB11) runB10)
theorem SSB19_ok : CallOk PP SSB19 := (memoH_ok (fun _ => ev_ok SSB2_ok) SBB_ok runB2)
theorem SSB20_ok : CallOk PP SSB20 := (memoH_ok (fun _ => ev_ok SSB15_ok) (memoH_ok (fun _ => ev_ok SSB16_ok) (memoH_ok (fun _ => ev_ok SSB17_ok) (memoH_ok (fun _ => ev_ok SSB18_ok) (memoH_ok (fun _ => ev_ok SSB19_ok) SBB_ok runB19) runB18) runB17) runB16) runB15)
end Go.Proofs.YtdepaeohpfcbgaaGreat
