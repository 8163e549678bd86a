/-
  PROVED: turnoutlaw11.MatchRanks answers true for every three entries (the tied card; no further condition): Order of any three entries is an order in which just the same ones are alike.
-/
import Derived.Test.YtgfjodldjaojhaaGreatDoorOpen
import Derived.Test.YtgfjodldjaojhaaGreatDoorFrame
import Derived.Test.YtgfjodldjaojhaaGreatDoorClosedRanks
import Derived.Test.YtgfjodldjaojhaaGreatDoorTie
import Derived.Test.YtgfjodldjaojhaaGreatDoorCards
import Derived.ProofKit
import Derived.OpenShut
import Derived.LaidMore
import Derived.Lay
import Derived.SevenTiedAt
import Derived.Stop.Joined
import Derived.Carry
namespace Go.Proofs.YtgfjodldjaojhaaGreatDoor
open Go.ChangeShapes Go.WideShapes Go.ChangeAt Go.RowKit Go.Eng
set_option linter.all false
set_option maxRecDepth 100000
set_option maxHeartbeats 2000000
theorem own : ownKnob PP.godebug = none := by kernel_rfl
theorem ranks_lifted (os : Os) (started : os.Started) (H : Type) (enc : TypeId × Value → H) :
    ReturnsInHanded {} Tryz.checked os 8 .any (fun w args => (Rows.matchRanksSpec.pre enc PP Tryz.f8 Rows.matchRanksRow.domain false w args ∧ laidMetH PP Rows.matchRanksRow.laid w) ∧ sizedMet enc PP Tryz.f8 (OpenSpec.ofChange Rows.matchRanksSpec) false w args)
      (Rows.matchRanksSpec.post enc PP Tryz.f8 false true false false) := by
  refine returns_laid_shaped (C := Tryz.checked) (X := fun w _ => laidMetH PP Rows.matchRanksRow.laid w) (fun _ _ _ hh h => h.of_heap hh) own started (by kernel_rfl) Tryz.func8
    (ChangeSpec.witness_shaped (enc := enc) (C := Tryz.checked) (os := os) (X := fun w _ => laidMetH PP Rows.matchRanksRow.laid w) false (World.laidAll PP os Rows.matchRanksRow.laid)
      #[.agg #[.slice none 0 0, .int .i64 0, .string ⟨#[]⟩, .slice none 0 0], .agg #[.slice none 0 0, .int .i64 0, .string ⟨#[]⟩, .slice none 0 0], .agg #[.slice none 0 0, .int .i64 0, .string ⟨#[]⟩, .slice none 0 0]] 8 (World.laidAll_os _ _ _)
      (World.shaped_of_ZipB (by kernel_rfl) (by kernel_rfl)) (by kernel_rfl) (by kernel_rfl) (by kernel_rfl)
      (by rw [MakeChecks.laidMetH_plain _ _ _ (by kernel_rfl)]; exact laidMet_laidAll _ (by kernel_rfl) (by kernel_rfl))) ?_
  intro W base args ds gs before hval0 hW hc _ hL hsh _
  have hval : ∀ (j : Nat) t v, Tryz.f8.params[j]? = some t → args[j]? = some v → Value.okWide PP W .any base t v := hval0
  have hW' := hW
  obtain ⟨p, q, hA0, hV, rfl, _, _⟩ := hW
  have hA : DataW.TrodAll enc PP W 0 (fun _ => true) true Tryz.f8.params.toList args.toList ds p := hA0
  rw [Tryz.params8] at hA hval
  obtain ⟨v0, v1, v2, d0, d1, d2, p0, p1, p2, rfl, rfl, rfl, h0, h1, h2⟩ := trodAll_three hA
  obtain ⟨rfl, rfl⟩ := trodVars_none hV
  have hL : laidMetH PP Rows.matchRanksRow.laid W := hL
  rw [MakeChecks.laidMetH_plain _ _ _ (by kernel_rfl)] at hL
  have lt0 : ∀ x ∈ p0, x.block < W.heap.size := by obtain ⟨m, hm⟩ := h0; exact DataW.trod_lt m _ _ _ hm
  have lt1 : ∀ x ∈ p1, x.block < W.heap.size := by obtain ⟨m, hm⟩ := h1; exact DataW.trod_lt m _ _ _ hm
  have lt2 : ∀ x ∈ p2, x.block < W.heap.size := by obtain ⟨m, hm⟩ := h2; exact DataW.trod_lt m _ _ _ hm
  obtain ⟨a, rfl, ha⟩ := open_entry (hval 0 39 v0 rfl rfl) h0
  obtain ⟨b, rfl, hb⟩ := open_entry (hval 1 39 v1 rfl rfl) h1
  obtain ⟨c, rfl, hc'⟩ := open_entry (hval 2 39 v2 rfl rfl) h2
  refine (ranks_calls a b c W (vars_sim hL hsh) ha hb hc').mono fun e W' ⟨he, hbl⟩ => ?_
  subst he
  have rd : PP.readableRec 39 = true := by kernel_rfl
  have sz : 39 < PP.types.size := of_decide_eq_true (by kernel_rfl)
  exact ⟨_, rfl, _, _, _, [], _, [], hW', trodAll_mk1 (shut_bool Tryz.underlying4 _), trodAll_mk3 (Below.trod seat_laidOut rd sz h0 hbl lt0) (Below.trod seat_laidOut rd sz h1 hbl lt1) (Below.trod seat_laidOut rd sz h2 hbl lt2), rfl, hbl.frame _, fun h => by cases h⟩

theorem ranks_func : PP.funcNamed Rows.matchRanksRow.func = some 8 := by kernel_rfl
theorem ranks_row : Rows.MatchRanksSaid :=
  OpenClaim.holds_of_wide 8 Tryz.f8 rfl rfl rfl rfl rfl rfl rfl ⟨rfl, rfl, rfl, rfl, rfl⟩ rfl rfl rfl rfl rfl ranks_func Tryz.func8 ranks_closed
    (of_decide_eq_true (by kernel_rfl)) (by unfold Func.isWrapper; first | (rw [if_pos (by decide +kernel)]; kernel_rfl) | (rw [if_neg (by decide +kernel)]; exact ⟨rfl, rfl⟩))
    (fun os started H enc _ => ranks_lifted os started H enc)

theorem matchRanks_holds : Rows.MatchRanksCardSaid :=
  Claim7.holds_tied_plain_at .later [] [.data, .data, .data, .data, .sentinel, .sentinel, .pinned] true (true, "e52e6bb57c8cfc3e80bb7b9bb5d930956abf6151ec0d5a4d1035199be7549850") true
    ranks_row (fun _ h => by cases h) (by as_aux_lemma => kernel_rfl) (fun _ h => by cases h) matchRanks_row_tie rfl ⟨rfl, rfl⟩ (by as_aux_lemma => kernel_rfl) rfl
    (fun f fn hf hfn => by
      obtain rfl : f = 8 := Option.some.inj ((show PP.funcNamed "turnout/turnoutlaw11.MatchRanks" = some 8 from ranks_func).symm.trans hf) |>.symm
      obtain rfl : fn = Tryz.f8 := (Option.some.inj (Tryz.func8.symm.trans hfn)).symm
      exact ⟨by as_aux_lemma => kernel_rfl, fun j t ht => by
        rw [Tryz.params8] at ht
        have hm : t ∈ [39, 39, 39] := by simpa using Array.mem_of_getElem? ht
        have hall : ([39, 39, 39].all fun u => !PP.wantsStandIn u) = true := by as_aux_lemma => kernel_rfl
        exact (show PP.wantsStandIn t = false by simpa using List.all_eq_true.1 hall t hm)⟩)
    (by as_aux_lemma => kernel_rfl)
#print axioms matchRanks_holds
end Go.Proofs.YtgfjodldjaojhaaGreatDoor
