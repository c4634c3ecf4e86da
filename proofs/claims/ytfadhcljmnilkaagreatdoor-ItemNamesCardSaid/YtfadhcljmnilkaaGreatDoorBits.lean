/- Bits of numbers with a point. -/
import Derived.Test.YtfadhcljmnilkaaGreatDoorEnv
import Derived.Laws.FloatBits
import Derived.Laws.Externs
namespace Go.Proofs.YtfadhcljmnilkaaGreatDoor
open Go.RowKit Nh

/-- No number? -/
def isNan (b : Nat) : Bool := FloatKind.f64.format.order b b != some Ordering.eq

theorem run_bits89 (b : Nat) (w : World) : (callFunc 89 #[.float .f64 b]).run Tryz.prog w = .ok (.value (.int .u64 b)) w := by
  rw [run_callFunc_extern Tryz.func89 (by kernel_rfl) (by kernel_rfl) (by kernel_rfl) (e := Extern.MathFloatBits.float64bits) (by kernel_rfl)]
  rfl
theorem run_from28 (n : Int) (w : World) : (callFunc 28 #[.int .u64 n]).run Tryz.prog w = .ok (.value (.float .f64 n.toNat)) w := by
  rw [run_callFunc_extern Tryz.func28 (by kernel_rfl) (by kernel_rfl) (by kernel_rfl) (e := Extern.MathFloatBits.float64frombits) (by kernel_rfl)]
  rfl

theorem nan_any (b : Nat) (w : World) : Calls Tryz.prog 145 #[.float .f64 b] w fun e w' => e = .returned (.bool (isNan b)) ∧ w' = w := by
  go_enter Tryz.func145, Tryz.ntmps145
  go_wp2
  go_ret
  exact ⟨rfl, rfl⟩

theorem rbits_nan (b : Nat) (w : World) (h : isNan b = true) : Calls Tryz.prog 35 #[.float .f64 b] w fun e w' => e = .returned (.int .u64 9221120237041090561) ∧ w' = w := by
  unfold isNan at h
  go_enter Tryz.func35, Tryz.ntmps35
  go_wp2
  go_ret
  exact ⟨rfl, rfl⟩
theorem rbits_num (b : Nat) (w : World) (h : isNan b = false) : Calls Tryz.prog 35 #[.float .f64 b] w fun e w' => e = .returned (.int .u64 b) ∧ w' = w := by
  unfold isNan at h
  have hk := run_bits89 b
  go_enter Tryz.func35, Tryz.ntmps35
  go_wp2
  go_ret
  exact ⟨rfl, rfl⟩
/-- What Bits answers. -/
def fbits (b : Nat) : Nat := if isNan b then 9221120237041090561 else b
theorem rbits_any (b : Nat) (w : World) : Calls Tryz.prog 35 #[.float .f64 b] w fun e w' => e = .returned (.int .u64 (fbits b : Nat)) ∧ w' = w := by
  cases h : isNan b with
  | true => unfold fbits; rw [if_pos h]; exact rbits_nan b w h
  | false => unfold fbits; rw [h]; exact rbits_num b w h
theorem pbits_any (b : Nat) (w : World) : Calls Tryz.prog 260 #[.float .f64 b] w fun e w' => e = .returned (.int .u64 (fbits b : Nat)) ∧ w' = w := by
  cases h : isNan b with
  | true =>
    unfold fbits; rw [if_pos h]
    go_enter Tryz.func260, Tryz.ntmps260
    go_wp2_with fail
    refine (nan_any b w).mono ?_
    rintro e w' ⟨rfl, rfl⟩
    rw [h]
    go_wp2
    go_ret
    exact ⟨rfl, rfl⟩
  | false =>
    unfold fbits; rw [h]
    have hk := run_bits89 b
    go_enter Tryz.func260, Tryz.ntmps260
    go_wp2_with fail
    refine (nan_any b w).mono ?_
    rintro e w' ⟨rfl, rfl⟩
    rw [h]
    go_wp2
    go_ret
    exact ⟨rfl, rfl⟩
end Go.Proofs.YtfadhcljmnilkaaGreatDoor
