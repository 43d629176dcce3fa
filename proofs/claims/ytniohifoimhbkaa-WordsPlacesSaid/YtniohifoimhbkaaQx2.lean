-- printed by myprint.py: a program of this repo over the kit's print
import Derived.Test.YtniohifoimhbkaaQx0
namespace Go.Proofs.Ytniohifoimhbkaa.Q
open Go.RowKit Go.Proofs.YtniohifoimhbkaaW.PrintWords Go.Proofs.YtniohifoimhbkaaW.PrintLast Go.Proofs.YtniohifoimhbkaaW.PrintMore
attribute [local go_sem] max2_int min2_int max_two min_two max_three min_three max_four min_four   -- for this text's walks alone
set_option linter.unusedVariables false
set_option linter.unusedSimpArgs false

/-! ### imprimaturkeep_Text: function 11 -/
def imprimaturkeep_Text.f (a0 : ByteArray) (a1 : Int) : Option (ByteArray) := if 0 ≤ (mn (a0.size : Int) a1) then (if (mn (a0.size : Int) a1) ≤ (a0.size : Int) then (some (a0.extract 0 ((mn (a0.size : Int) a1) : Int).toNat)) else (none)) else (none)
set_option maxHeartbeats 8000000 in
set_option maxRecDepth 100000 in
theorem imprimaturkeep_Text.calls (a0 : ByteArray) (a1 : Int) (r : ByteArray) (w : World) (h : imprimaturkeep_Text.f a0 a1 = some r) :
    Calls Try.prog 11 #[.string a0, .int .i64 a1] w fun e w' => e = .returned (.string r) ∧ Below w.heap.size w w' := by
  have HB := Aside0.mk (Below.refl w.heap.size w)
  have H : (if 0 ≤ (mn (a0.size : Int) a1) then (if (mn (a0.size : Int) a1) ≤ (a0.size : Int) then (some (a0.extract 0 ((mn (a0.size : Int) a1) : Int).toNat)) else (none)) else (none)) = some r := h
  clear h
  obtain ⟨ji3, hji3⟩ : ∃ j_ : Int, (mn (a0.size : Int) a1) = j_ := ⟨_, rfl⟩
  replace H : (if 0 ≤ (ji3) then (if (ji3) ≤ (a0.size : Int) then (some (a0.extract 0 ((ji3) : Int).toNat)) else (none)) else (none)) = some r := by first | (rw [hji3] at H; exact H) | (simp only [hji3] at H ⊢; exact H)
  have hji3_ : (if a1 < (a0.size : Int) then a1 else (a0.size : Int)) = ji3 := hji3
  by_cases c4 : 0 ≤ (ji3)
  · rw [if_pos c4] at H
    have c4b0 := eq_true c4
    have c4b1 : decide (0 ≤ (ji3)) = true := decide_eq_true c4
    clear c4
    by_cases c5 : (ji3) ≤ (a0.size : Int)
    · rw [if_pos c5] at H
      have c5b0 := eq_true c5
      have c5b1 : decide ((ji3) ≤ (a0.size : Int)) = true := decide_eq_true c5
      clear c5
      obtain rfl := Option.some.inj H
      go_enter Try.func11, Try.ntmps11
      go_wp2
      go_ret
      exact ⟨by first | rfl | (simp [errW_none, errW_some] <;> rfl) | (simp only [← hji3]; first | rfl | (simp [errW_none, errW_some] <;> rfl)) | (simp [*, errW_none, errW_some] <;> rfl), by repeat (first | (with_reducible first | exact HB.out | apply below_alloc | apply pw_below_drewN | apply below_drew1) | exact HB.out)⟩
    · rw [if_neg c5] at H
      exact absurd H (by simp)
  · rw [if_neg c4] at H
    exact absurd H (by simp)

end Go.Proofs.Ytniohifoimhbkaa.Q
