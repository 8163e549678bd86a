/- MatchBest. -/
import Derived.Test.YtojegdhjkcllfaaGreatDoorRows
import Derived.JoinedOf
import Derived.KernelRfl
namespace Go.Proofs.YtojegdhjkcllfaaGreatDoor
open Go
set_option maxRecDepth 100000
set_option maxHeartbeats 4000000
theorem and_mk{a b:Bool}(h:a=true)(k:b=true):(a&&b)=true:=by rw[h,k];rfl
theorem seat_laidOut:laidOutB Go.Proofs.Tryz.prog=true:=by kernel_rfl
theorem seat_mapsRowed:mapsRowed Go.Proofs.Tryz.prog=true:=by kernel_rfl
theorem seat_stops:(Go.Proofs.Tryz.prog.stops==[])=true:=by kernel_rfl
theorem seat_stopKnobs:(Go.Proofs.Tryz.prog.stopKnobs==[])=true:=by kernel_rfl
theorem best_inPlace:(Rows.matchBestUptoRow.inPlace==Go.Proofs.Tryz.prog.inPlace 3)=true:=by kernel_rfl
theorem best_unfollowed:(Rows.matchBestUptoRow.unfollowed==Go.Proofs.Tryz.prog.unfollowed 3)=true:=by kernel_rfl
theorem best_recurses:(Rows.matchBestUptoRow.recurses==Go.Proofs.Tryz.prog.recurses 3)=true:=by kernel_rfl
theorem best_named:(Rows.matchBestUptoRow.named==Go.Proofs.Tryz.prog.varsNamed 3)=true:=by kernel_rfl
theorem best_closed:joinedFacts Go.Proofs.Tryz.prog 3 Tryz.f3 (Rows.OpenSpec.upto Rows.matchBestSpec).bare Rows.matchBestUptoRow=true:=by
 unfold joinedFacts
 repeat' (with_reducible refine and_mk ?_ ?_)
 all_goals first |with_reducible exact best_inPlace |with_reducible exact best_unfollowed |with_reducible exact best_recurses |with_reducible exact best_named |with_reducible exact seat_laidOut |with_reducible exact seat_mapsRowed |with_reducible exact seat_stops |with_reducible exact seat_stopKnobs |(as_aux_lemma=>kernel_rfl)
end Go.Proofs.YtojegdhjkcllfaaGreatDoor
