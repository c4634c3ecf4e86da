/- The closed facts of the row of ItemNames, each by the kernel. -/
import Derived.Test.YtfadhcljmnilkaaGreatDoorRows
import Derived.JoinedOf
namespace Go.Proofs.YtfadhcljmnilkaaGreatDoor
open Go
set_option maxHeartbeats 40000000 in
theorem itemNames_closed : joinedFacts Tryz.pinned.checked.prog 8 Tryz.f8 Rows.itemNamesSpec Rows.itemNamesRow = true := by
  unfold joinedFacts
  simp only [Bool.and_eq_true]
  and_intros
  all_goals (as_aux_lemma => kernel_rfl)
theorem itemNames_inst : Tryz.f8.isInstance Tryz.pinned.checked.prog Rows.itemNamesRow.origin Rows.itemNamesRow.targs := of_decide_eq_true (by kernel_rfl)
theorem itemNames_wrap : Tryz.f8.isWrapper Tryz.pinned.checked.prog Rows.itemNamesRow.wrapper Rows.itemNamesRow.mainSum := by unfold Func.isWrapper; first | (rw [if_pos (by decide +kernel)]; kernel_rfl) | (rw [if_neg (by decide +kernel)]; exact ⟨rfl, rfl⟩)
#print axioms itemNames_closed
#print axioms itemNames_inst
#print axioms itemNames_wrap
end Go.Proofs.YtfadhcljmnilkaaGreatDoor
