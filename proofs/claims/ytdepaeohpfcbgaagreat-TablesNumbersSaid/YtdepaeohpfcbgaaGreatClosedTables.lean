/- Closed facts of the row of TablesNumbers (no condition). -/
import Derived.Test.YtdepaeohpfcbgaaGreatClosedSeat
namespace Go.Proofs.YtdepaeohpfcbgaaGreat
open Go
set_option maxRecDepth 100000
set_option maxHeartbeats 4000000
theorem tables_inPlace : (Rows.tablesNumbersRow.inPlace == Go.Proofs.Tryz.prog.inPlace 4) = true := by kernel_rfl
theorem tables_unfollowed : (Rows.tablesNumbersRow.unfollowed == Go.Proofs.Tryz.prog.unfollowed 4) = true := by kernel_rfl
theorem tables_recurses : (Rows.tablesNumbersRow.recurses == Go.Proofs.Tryz.prog.recurses 4) = true := by kernel_rfl
theorem tables_named : (Rows.tablesNumbersRow.named == Go.Proofs.Tryz.prog.varsNamed 4) = true := by kernel_rfl
theorem tables_closed : joinedFacts Go.Proofs.Tryz.prog 4 Tryz.f4 Rows.tablesNumbersSpec Rows.tablesNumbersRow = true := by
  unfold joinedFacts
  repeat' (with_reducible refine and_mk ?_ ?_)
  all_goals first | with_reducible exact tables_inPlace | with_reducible exact tables_unfollowed | with_reducible exact tables_recurses | with_reducible exact tables_named | with_reducible exact seat_laidOut | with_reducible exact seat_mapsRowed | with_reducible exact seat_stops | with_reducible exact seat_stopKnobs | (as_aux_lemma => kernel_rfl)
end Go.Proofs.YtdepaeohpfcbgaaGreat
