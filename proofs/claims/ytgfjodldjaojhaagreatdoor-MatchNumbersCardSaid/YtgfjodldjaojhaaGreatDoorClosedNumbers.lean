/- Closed facts of the row of MatchNumbers (no condition). -/
import Derived.Test.YtgfjodldjaojhaaGreatDoorClosedSeat
namespace Go.Proofs.YtgfjodldjaojhaaGreatDoor
open Go
set_option maxRecDepth 100000
set_option maxHeartbeats 4000000
theorem numbers_inPlace : (Rows.matchNumbersRow.inPlace == Go.Proofs.Tryz.prog.inPlace 3) = true := by kernel_rfl
theorem numbers_unfollowed : (Rows.matchNumbersRow.unfollowed == Go.Proofs.Tryz.prog.unfollowed 3) = true := by kernel_rfl
theorem numbers_recurses : (Rows.matchNumbersRow.recurses == Go.Proofs.Tryz.prog.recurses 3) = true := by kernel_rfl
theorem numbers_named : (Rows.matchNumbersRow.named == Go.Proofs.Tryz.prog.varsNamed 3) = true := by kernel_rfl
theorem numbers_closed : joinedFacts Go.Proofs.Tryz.prog 3 Tryz.f3 Rows.matchNumbersSpec Rows.matchNumbersRow = true := by
  unfold joinedFacts
  repeat' (with_reducible refine and_mk ?_ ?_)
  all_goals first | with_reducible exact numbers_inPlace | with_reducible exact numbers_unfollowed | with_reducible exact numbers_recurses | with_reducible exact numbers_named | with_reducible exact seat_laidOut | with_reducible exact seat_mapsRowed | with_reducible exact seat_stops | with_reducible exact seat_stopKnobs | (as_aux_lemma => kernel_rfl)
end Go.Proofs.YtgfjodldjaojhaaGreatDoor
