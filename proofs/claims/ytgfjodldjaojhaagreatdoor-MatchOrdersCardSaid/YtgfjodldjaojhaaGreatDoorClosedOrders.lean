/- Closed facts of the row of MatchOrders (no condition). -/
import Derived.Test.YtgfjodldjaojhaaGreatDoorClosedSeat
namespace Go.Proofs.YtgfjodldjaojhaaGreatDoor
open Go
set_option maxRecDepth 100000
set_option maxHeartbeats 4000000
theorem orders_inPlace : (Rows.matchOrdersRow.inPlace == Go.Proofs.Tryz.prog.inPlace 5) = true := by kernel_rfl
theorem orders_unfollowed : (Rows.matchOrdersRow.unfollowed == Go.Proofs.Tryz.prog.unfollowed 5) = true := by kernel_rfl
theorem orders_recurses : (Rows.matchOrdersRow.recurses == Go.Proofs.Tryz.prog.recurses 5) = true := by kernel_rfl
theorem orders_named : (Rows.matchOrdersRow.named == Go.Proofs.Tryz.prog.varsNamed 5) = true := by kernel_rfl
theorem orders_closed : joinedFacts Go.Proofs.Tryz.prog 5 Tryz.f5 Rows.matchOrdersSpec Rows.matchOrdersRow = true := by
  unfold joinedFacts
  repeat' (with_reducible refine and_mk ?_ ?_)
  all_goals first | with_reducible exact orders_inPlace | with_reducible exact orders_unfollowed | with_reducible exact orders_recurses | with_reducible exact orders_named | with_reducible exact seat_laidOut | with_reducible exact seat_mapsRowed | with_reducible exact seat_stops | with_reducible exact seat_stopKnobs | (as_aux_lemma => kernel_rfl)

end Go.Proofs.YtgfjodldjaojhaaGreatDoor
