/- What is proved: nearhandlaw09.ItemNames returns true, whatever the memory that it is called in, and changes nothing that was there; taking that the library's listed tables lie as the program's text lays them (the card ties them to that text). -/
import Derived.Test.YtfadhcljmnilkaaGreatDoorItem2
import Derived.Test.YtfadhcljmnilkaaGreatDoorStart
import Derived.Test.YtfadhcljmnilkaaGreatDoorItemFacts
import Derived.Test.YtfadhcljmnilkaaGreatDoorCards
import Derived.Test.YtfadhcljmnilkaaGreatDoorTie
import Derived.ProofKit
import Derived.OpenShut
import Derived.LaidMore
import Derived.Lay
import Derived.SevenTiedAt
import Derived.Stop.Joined
namespace Go.Proofs.YtfadhcljmnilkaaGreatDoor
open Go.ChangeShapes Go.WideShapes Go.ChangeAt Go.RowKit

theorem own : ownKnob Tryz.prog.godebug = none := by kernel_rfl

set_option maxRecDepth 100000 in
theorem itemNames_lifted (os : Os) (started : os.Started) (H : Type) (enc : TypeId × Value → H) :
    ReturnsInHanded {} Tryz.checked os 8 .any (fun w args => (Rows.itemNamesSpec.pre enc Tryz.prog Tryz.f8 Rows.itemNamesRow.domain false w args ∧ laidMetH Tryz.prog Rows.itemNamesRow.laid w) ∧ sizedMet enc Tryz.prog Tryz.f8 (OpenSpec.ofChange Rows.itemNamesSpec) false w args)
      (Rows.itemNamesSpec.post enc Tryz.prog Tryz.f8 false true false false) := by
  refine returnsInHanded_of_change_and (C := Tryz.checked) (X := fun w _ => laidMetH Tryz.prog Rows.itemNamesRow.laid w) (fun _ _ _ hh h => h.of_heap hh) own started (by kernel_rfl) Tryz.func8
    (ChangeSpec.witness_shaped (enc := enc) (C := Tryz.checked) (os := os) (X := fun w _ => laidMetH Tryz.prog Rows.itemNamesRow.laid w) false (World.laidAll Tryz.prog os Rows.itemNamesRow.laid) #[] 8 (World.laidAll_os _ _ _)
      (World.shaped_of_ZipB (by kernel_rfl) (by kernel_rfl)) (by kernel_rfl) (by kernel_rfl) (by kernel_rfl)
      (by rw [MakeChecks.laidMetH_plain _ _ _ (by kernel_rfl)]; exact laidMet_laidAll _ (by kernel_rfl) (by kernel_rfl))) ?_
  intro W base args ds gs before hval0 hW _ _ hL _
  have hW' := hW
  obtain ⟨p, q, hA0, hV, rfl, _, _⟩ := hW
  have hA : DataW.TrodAll enc Tryz.prog W 0 (fun _ => true) true Tryz.f8.params.toList args.toList ds p := hA0
  rw [Tryz.params8] at hA
  obtain ⟨rfl, rfl, rfl⟩ : args = #[] ∧ ds = [] ∧ p = [] := by
    obtain ⟨l⟩ := args
    cases l with
    | nil =>
      cases ds with
      | nil => exact ⟨rfl, rfl, hA⟩
      | cons _ _ => exact absurd hA (by intro h; cases h)
    | cons _ _ => exact absurd hA (by intro h; cases h)
  obtain ⟨rfl, rfl⟩ := trodVars_none hV
  rw [MakeChecks.laidMetH_plain _ _ _ (by kernel_rfl)] at hL
  have hE : Env W.heap.size W := by
    refine env_of (size_of (d := Rows.laid_internal_strconv_leftcheats) (Lib.laidMet.reads hL ?_)) (Lib.laidMet.reads hL ?_) (Lib.laidMet.reads hL ?_) (Lib.laidMet.reads hL ?_)
    · simp [Rows.itemNamesRow]
    · simp [Rows.itemNamesRow]
    · simp [Rows.itemNamesRow]
    · simp [Rows.itemNamesRow]
  have fin := item_names W hE
  refine fin.mono fun e W' ⟨he, hw⟩ => ?_
  subst he
  exact ⟨_, rfl, _, _, _, [], [], [], hW', trodAll_mk1 (shut_bool Tryz.underlying4 _), rfl, rfl, hw.frame _, fun h => by cases h⟩

theorem itemNames_named : Tryz.pinned.checked.prog.funcNamed Rows.itemNamesRow.func = some 8 := by kernel_rfl
theorem itemNames_holds : Rows.ItemNamesSaid :=
  OpenClaim.holds_of_wide 8 Tryz.f8 rfl rfl rfl rfl rfl rfl rfl ⟨rfl, rfl, rfl, rfl, rfl⟩ rfl rfl rfl rfl rfl itemNames_named Tryz.func8 itemNames_closed
    itemNames_inst itemNames_wrap
    (fun os started H enc _ => itemNames_lifted os started H enc)
#print axioms itemNames_holds
set_option maxHeartbeats 40000000 in
theorem itemNames_card_holds : Rows.ItemNamesCardSaid :=
  Claim7.holds_tied_plain_at .later [] Rows.itemNamesCard.laidKinds true (true, "024fbc9b73c5c4cf0a5605a99030f9db41382abcce9bf7d3eb62748700776439") true itemNames_holds (fun _ h => by cases h) (by as_aux_lemma => kernel_rfl) (fun _ h => by cases h) itemNames_row_tie rfl ⟨rfl, rfl⟩ (by as_aux_lemma => kernel_rfl) rfl
    (fun f fn hf hfn => by
      obtain rfl : f = 8 := Option.some.inj (itemNames_named.symm.trans hf) |>.symm
      obtain rfl : fn = Tryz.f8 := (Option.some.inj (Tryz.func8.symm.trans hfn)).symm
      exact ⟨by as_aux_lemma => kernel_rfl, fun j t ht => by
        rw [Tryz.params8] at ht
        simp at ht⟩)
    (by as_aux_lemma => kernel_rfl)
#print axioms itemNames_card_holds
end Go.Proofs.YtfadhcljmnilkaaGreatDoor
