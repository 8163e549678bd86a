/- Closed facts of the row of TernNumbers (no condition). -/
import Derived.Test.YtdepaeohpfcbgaaGreatClosedSeat
namespace Go.Proofs.YtdepaeohpfcbgaaGreat
open Go
set_option maxRecDepth 100000
set_option maxHeartbeats 4000000
theorem tern_inPlace : (Rows.ternNumbersRow.inPlace == Go.Proofs.Tryz.prog.inPlace 3) = true := by kernel_rfl
theorem tern_unfollowed : (Rows.ternNumbersRow.unfollowed == Go.Proofs.Tryz.prog.unfollowed 3) = true := by kernel_rfl
theorem tern_recurses : (Rows.ternNumbersRow.recurses == Go.Proofs.Tryz.prog.recurses 3) = true := by kernel_rfl
theorem tern_named : (Rows.ternNumbersRow.named == Go.Proofs.Tryz.prog.varsNamed 3) = true := by kernel_rfl
theorem tern_closed : joinedFacts Go.Proofs.Tryz.prog 3 Tryz.f3 Rows.ternNumbersSpec Rows.ternNumbersRow = true := by
  unfold joinedFacts
  repeat' (with_reducible refine and_mk ?_ ?_)
  all_goals first | with_reducible exact tern_inPlace | with_reducible exact tern_unfollowed | with_reducible exact tern_recurses | with_reducible exact tern_named | with_reducible exact seat_laidOut | with_reducible exact seat_mapsRowed | with_reducible exact seat_stops | with_reducible exact seat_stopKnobs | (as_aux_lemma => kernel_rfl)
end Go.Proofs.YtdepaeohpfcbgaaGreat
