-- printed by myprint.py: a program of this repo over the kit's print
import Derived.Test.YtnomeokicfpidaaQx0
namespace Go.Proofs.Ytnomeokicfpidaa.Q
open Go.RowKit Go.Proofs.YtnomeokicfpidaaW.PrintWords Go.Proofs.YtnomeokicfpidaaW.PrintLast Go.Proofs.YtnomeokicfpidaaW.PrintMore
attribute [local go_sem] max2_int min2_int max_two min_two max_three min_three max_four min_four   -- for this text's walks alone
set_option linter.unusedVariables false
set_option linter.unusedSimpArgs false

/-! ### bits_Len32: function 43 (by hand) -/
def bits_Len32.f (a0 : Int) : Option (Int) := if 0 ≤ a0 then (if a0 ≤ 4294967295 then some ((Lib.bitLen a0.toNat : Nat) : Int) else none) else none
theorem bits_Len32.calls (a0 : Int) (r : Int) (w : World) (h : bits_Len32.f a0 = some r) :
    Calls Try.prog 43 #[.int .u32 a0] w fun e w' => e = .returned (.int .i64 r) ∧ Drawn0 w w' := by
  unfold bits_Len32.f at h
  by_cases h0 : 0 ≤ a0
  · rw [if_pos h0] at h
    by_cases h1 : a0 ≤ 4294967295
    · rw [if_pos h1] at h
      obtain rfl := Option.some.inj h
      refine (Try.bits_Len32 a0 w h0 h1).mono ?_
      rintro e w' ⟨rfl, rfl⟩
      exact ⟨rfl, Drawn0.refl _⟩
    · rw [if_neg h1] at h; exact absurd h (by simp)
  · rw [if_neg h0] at h; exact absurd h (by simp)

end Go.Proofs.Ytnomeokicfpidaa.Q
