/- MatchBest. -/
import Derived.Test.YtojegdhjkcllfaaGreatDoorBkRunSa
import Derived.Test.YtojegdhjkcllfaaGreatDoorBkRunSb
import Derived.Test.YtojegdhjkcllfaaGreatDoorBkRunSc
import Derived.Test.YtojegdhjkcllfaaGreatDoorBkRunSd
namespace Go.Eng.Cons
open Go.Eng
variable [F:Far]
theorem SBS_ok:CallOk PP SBS:=S0_ok
theorem SSS0_ok:CallOk PP SSS0:=SBS_ok
theorem SSS1_ok:CallOk PP SSS1:=SBS_ok
theorem SSS2_ok:CallOk PP SSS2:=SBS_ok
theorem SSS3_ok:CallOk PP SSS3:=SBS_ok
theorem SSS4_ok:CallOk PP SSS4:=(memoF_ok (C:=fun F=>@ev F SSS1) (fun F=>@ev_ok F _ (@SSS1_ok F)) SBS_ok (fun F=>@runS1 F) l1okS1)
theorem SSS5_ok:CallOk PP SSS5:=SBS_ok
theorem SSS6_ok:CallOk PP SSS6:=SBS_ok
theorem SSS7_ok:CallOk PP SSS7:=SBS_ok
theorem SSS8_ok:CallOk PP SSS8:=SBS_ok
theorem SSS9_ok:CallOk PP SSS9:=SBS_ok
theorem SSS10_ok:CallOk PP SSS10:=SBS_ok
theorem SSS11_ok:CallOk PP SSS11:=SBS_ok
theorem SSS12_ok:CallOk PP SSS12:=SBS_ok
theorem SSS13_ok:CallOk PP SSS13:=(memoF_ok (C:=fun F=>@ev F SSS2) (fun F=>@ev_ok F _ (@SSS2_ok F)) SBS_ok (fun F=>@runS2 F) l1okS2)
theorem SSS14_ok:CallOk PP SSS14:=(memoF_ok (C:=fun F=>@ev F SSS0) (fun F=>@ev_ok F _ (@SSS0_ok F)) SBS_ok (fun F=>@runS0 F) l1okS0)
theorem SSS15_ok:CallOk PP SSS15:=SBS_ok
theorem SSS16_ok:CallOk PP SSS16:=(memoF_ok (C:=fun F=>@ev F SSS3) (fun F=>@ev_ok F _ (@SSS3_ok F)) (memoF_ok (C:=fun F=>@ev F SSS4) (fun F=>@ev_ok F _ (@SSS4_ok F)) (memoF_ok (C:=fun F=>@ev F SSS5) (fun F=>@ev_ok F _ (@SSS5_ok F)) (memoF_ok (C:=fun F=>@ev F SSS6) (fun F=>@ev_ok F _ (@SSS6_ok F)) (memoF_ok (C:=fun F=>@ev F SSS7) (fun F=>@ev_ok F _ (@SSS7_ok F)) (memoF_ok (C:=fun F=>@ev F SSS8) (fun F=>@ev_ok F _ (@SSS8_ok F)) (memoF_ok (C:=fun F=>@ev F SSS9) (fun F=>@ev_ok F _ (@SSS9_ok F)) (memoF_ok (C:=fun F=>@ev F SSS10) (fun F=>@ev_ok F _ (@SSS10_ok F)) (memoF_ok (C:=fun F=>@ev F SSS11) (fun F=>@ev_ok F _ (@SSS11_ok F)) (memoF_ok (C:=fun F=>@ev F SSS12) (fun F=>@ev_ok F _ (@SSS12_ok F)) (memoF_ok (C:=fun F=>@ev F SSS13) (fun F=>@ev_ok F _ (@SSS13_ok F)) (memoF_ok (C:=fun F=>@ev F SSS14) (fun F=>@ev_ok F _ (@SSS14_ok F)) (memoF_ok (C:=fun F=>@ev F SSS15) (fun F=>@ev_ok F _ (@SSS15_ok F)) SBS_ok (fun F=>@runS15 F) l1okS15) (fun F=>@runS14 F) l1okS14) (fun F=>@runS13 F) l1okS13) (fun F=>@runS12 F) l1okS12) (fun F=>@runS11 F) l1okS11) (fun F=>@runS10 F) l1okS10) (fun F=>@runS9 F) l1okS9) (fun F=>@runS8 F) l1okS8) (fun F=>@runS7 F) l1okS7) (fun F=>@runS6 F) l1okS6) (fun F=>@runS5 F) l1okS5) (fun F=>@runS4 F) l1okS4) (fun F=>@runS3 F) l1okS3)
end Go.Eng.Cons
