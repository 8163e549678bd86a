/- Closed facts of the row of MatchRanks (no condition). -/
import Derived.Test.YtgfjodldjaojhaaGreatDoorClosedSeat
namespace Go.Proofs.YtgfjodldjaojhaaGreatDoor
open Go
set_option maxRecDepth 100000
set_option maxHeartbeats 4000000
theorem ranks_inPlace : (Rows.matchRanksRow.inPlace == Go.Proofs.Tryz.prog.inPlace 8) = true := by kernel_rfl
theorem ranks_unfollowed : (Rows.matchRanksRow.unfollowed == Go.Proofs.Tryz.prog.unfollowed 8) = true := by kernel_rfl
theorem ranks_recurses : (Rows.matchRanksRow.recurses == Go.Proofs.Tryz.prog.recurses 8) = true := by kernel_rfl
theorem ranks_named : (Rows.matchRanksRow.named == Go.Proofs.Tryz.prog.varsNamed 8) = true := by kernel_rfl
theorem ranks_closed : joinedFacts Go.Proofs.Tryz.prog 8 Tryz.f8 Rows.matchRanksSpec Rows.matchRanksRow = true := by
  unfold joinedFacts
  repeat' (with_reducible refine and_mk ?_ ?_)
  all_goals first | with_reducible exact ranks_inPlace | with_reducible exact ranks_unfollowed | with_reducible exact ranks_recurses | with_reducible exact ranks_named | with_reducible exact seat_laidOut | with_reducible exact seat_mapsRowed | with_reducible exact seat_stops | with_reducible exact seat_stopKnobs | (as_aux_lemma => kernel_rfl)
end Go.Proofs.YtgfjodldjaojhaaGreatDoor
