/-
  PROVED: turnoutlaw11.MatchOrders answers true for every list of entries (the tied card; no further condition): Order and Same of any two entries are those of the reference.
-/
import Derived.Test.YtgfjodldjaojhaaGreatDoorMorOpen
import Derived.Test.YtgfjodldjaojhaaGreatDoorFrame
import Derived.Test.YtgfjodldjaojhaaGreatDoorClosedOrders
import Derived.Test.YtgfjodldjaojhaaGreatDoorTie
import Derived.Test.YtgfjodldjaojhaaGreatDoorCards
import Derived.ProofKit
import Derived.OpenShut
import Derived.LaidMore
import Derived.Lay
import Derived.SevenTiedAt
import Derived.Stop.Joined
import Derived.Carry
namespace Go.Proofs.YtgfjodldjaojhaaGreatDoor
open Go.ChangeShapes Go.WideShapes Go.ChangeAt Go.RowKit Go.Eng
set_option linter.all false
set_option maxRecDepth 100000
set_option maxHeartbeats 2000000
theorem own : ownKnob PP.godebug = none := by kernel_rfl
theorem orders_lifted (os : Os) (started : os.Started) (H : Type) (enc : TypeId × Value → H) :
    ReturnsInHanded {} Tryz.checked os 5 .any (fun w args => (Rows.matchOrdersSpec.pre enc PP Tryz.f5 Rows.matchOrdersRow.domain false w args ∧ laidMetH PP Rows.matchOrdersRow.laid w) ∧ sizedMet enc PP Tryz.f5 (OpenSpec.ofChange Rows.matchOrdersSpec) false w args)
      (Rows.matchOrdersSpec.post enc PP Tryz.f5 false true false false) := by
  refine returns_laid_shaped (C := Tryz.checked) (X := fun w _ => laidMetH PP Rows.matchOrdersRow.laid w) (fun _ _ _ hh h => h.of_heap hh) own started (by kernel_rfl) Tryz.func5
    (ChangeSpec.witness_shaped (enc := enc) (C := Tryz.checked) (os := os) (X := fun w _ => laidMetH PP Rows.matchOrdersRow.laid w) false (World.laidAll PP os Rows.matchOrdersRow.laid)
      #[.slice none 0 0] 5 (World.laidAll_os _ _ _)
      (World.shaped_of_ZipB (by kernel_rfl) (by kernel_rfl)) (by kernel_rfl) (by kernel_rfl) (by kernel_rfl)
      (by rw [MakeChecks.laidMetH_plain _ _ _ (by kernel_rfl)]; exact laidMet_laidAll _ (by kernel_rfl) (by kernel_rfl))) ?_
  intro W base args ds gs before hval0 hW hc _ hL hsh _
  have hval : ∀ (j : Nat) t v, Tryz.f5.params[j]? = some t → args[j]? = some v → Value.okWide PP W .any base t v := hval0
  have hW' := hW
  obtain ⟨p, q, hA0, hV, rfl, _, _⟩ := hW
  have hA : DataW.TrodAll enc PP W 0 (fun _ => true) true Tryz.f5.params.toList args.toList ds p := hA0
  rw [Tryz.params5] at hA hval
  obtain ⟨v0, d0, rfl, rfl, h0⟩ := trodAll_one hA
  obtain ⟨rfl, rfl⟩ := trodVars_none hV
  have hL : laidMetH PP Rows.matchOrdersRow.laid W := hL
  rw [MakeChecks.laidMetH_plain _ _ _ (by kernel_rfl)] at hL
  have lt0 : ∀ x ∈ p, x.block < W.heap.size := by obtain ⟨m, hm⟩ := h0; exact DataW.trod_lt m _ _ _ hm
  obtain ⟨A, l, c, rfl, hr, hlc, hfit⟩ := PMor.open_list (hval 0 31 v0 rfl rfl) h0
  obtain ⟨M, hM⟩ := PMor.fit_ex l hfit
  obtain ⟨k, hk⟩ := PMor.orders_true M l hM
  refine (PMor.turnoutlaw11_MatchOrders.calls k A c l true W (vars_sim hL hsh) hr hlc hk).mono fun e W' ⟨he, hbl⟩ => ?_
  subst he
  have rd : PP.readableRec 31 = true := by kernel_rfl
  have sz : 31 < PP.types.size := of_decide_eq_true (by kernel_rfl)
  exact ⟨_, rfl, _, _, _, [], _, [], hW', trodAll_mk1 (shut_bool Tryz.underlying4 _), trodAll_mk1 (Below.trod seat_laidOut rd sz h0 hbl lt0), rfl, hbl.frame _, fun h => by cases h⟩

theorem orders_func : PP.funcNamed Rows.matchOrdersRow.func = some 5 := by kernel_rfl
theorem orders_row : Rows.MatchOrdersSaid :=
  OpenClaim.holds_of_wide 5 Tryz.f5 rfl rfl rfl rfl rfl rfl rfl ⟨rfl, rfl, rfl, rfl, rfl⟩ rfl rfl rfl rfl rfl orders_func Tryz.func5 orders_closed
    (of_decide_eq_true (by kernel_rfl)) (by unfold Func.isWrapper; first | (rw [if_pos (by decide +kernel)]; kernel_rfl) | (rw [if_neg (by decide +kernel)]; exact ⟨rfl, rfl⟩))
    (fun os started H enc _ => orders_lifted os started H enc)

theorem matchOrders_holds : Rows.MatchOrdersCardSaid :=
  Claim7.holds_tied_plain_at .later [] [.data, .data, .data, .data, .sentinel, .sentinel, .pinned] true (true, "e52e6bb57c8cfc3e80bb7b9bb5d930956abf6151ec0d5a4d1035199be7549850") true
    orders_row (fun _ h => by cases h) (by as_aux_lemma => kernel_rfl) (fun _ h => by cases h) matchOrders_row_tie rfl ⟨rfl, rfl⟩ (by as_aux_lemma => kernel_rfl) rfl
    (fun f fn hf hfn => by
      obtain rfl : f = 5 := Option.some.inj ((show PP.funcNamed "turnout/turnoutlaw11.MatchOrders" = some 5 from orders_func).symm.trans hf) |>.symm
      obtain rfl : fn = Tryz.f5 := (Option.some.inj (Tryz.func5.symm.trans hfn)).symm
      exact ⟨by as_aux_lemma => kernel_rfl, fun j t ht => by
        rw [Tryz.params5] at ht
        have hm : t ∈ [31] := by simpa using Array.mem_of_getElem? ht
        have hall : ([31].all fun u => !PP.wantsStandIn u) = true := by as_aux_lemma => kernel_rfl
        exact (show PP.wantsStandIn t = false by simpa using List.all_eq_true.1 hall t hm)⟩)
    (by as_aux_lemma => kernel_rfl)
#print axioms matchOrders_holds
end Go.Proofs.YtgfjodldjaojhaaGreatDoor
