/-
  What the printed helps of the statements answer: Within, Copy, Cut; the document's example (wakes of layer 6). Conditions: none beyond each lemma's own.
-/
import Derived.Test.YtnomeokicfpidaaMth
import Derived.Test.YtnomeokicfpidaaQx0
import Derived.Test.YtnomeokicfpidaaQx1
import Derived.Test.YtnomeokicfpidaaQx2
import Derived.Test.YtnomeokicfpidaaQx4
import Derived.Test.YtnomeokicfpidaaQx11
namespace Go.Proofs.Ytnomeokicfpidaa.M
open Go.RowKit Go.Proofs.YtnomeokicfpidaaW.PrintWords Go.Proofs.YtnomeokicfpidaaW.PrintLast Go.Proofs.YtnomeokicfpidaaW.PrintMore Go.Proofs.Ytnomeokicfpidaa.Q
set_option linter.unusedVariables false

theorem within_f (a b : Int) (hb : 1 ≤ b) (hb' : b ≤ 4611686018427387904) : imprimaturkeep_Within.f a b = some (a % b) := by
  unfold imprimaturkeep_Within.f
  have h0 := Int.emod_nonneg a (show b ≠ 0 by omega)
  have h1 := Int.emod_lt_of_pos a (show 0 < b by omega)
  rw [if_neg (by omega), if_neg (by omega), Int.tmod_eq_emod]
  by_cases h : 0 ≤ a ∨ b ∣ a
  · rw [if_pos h, if_neg (by omega)]; simp
  · rw [if_neg h]
    have : a % b ≠ 0 := fun e => h (.inr (Int.dvd_of_emod_eq_zero e))
    rw [if_pos (by omega), w64 (by omega) (by omega)]
    congr 1; omega
theorem within_z (a b : Int) (hb : b < 1) : imprimaturkeep_Within.f a b = some 0 := by
  unfold imprimaturkeep_Within.f
  rw [if_pos hb]
theorem copy_f (l : List Int) (h : l.length < 17592186044416) : imprimaturkeep_Copy_int.f l = some l := by
  unfold imprimaturkeep_Copy_int.f
  rw [if_pos (by simpa using h)]; simp
theorem cut_f (l : List Int) (n : Nat) (hn : n < 1000000) : imprimaturkeep_Cut_int.f l (n : Int) = some (l.take n) := by
  unfold imprimaturkeep_Cut_int.f
  rw [mn_eq, if_pos (by omega), if_pos (by omega), copy_f _ (by rw [List.length_take]; omega), Option.bind_some]
  congr 1
  by_cases h : l.length ≤ n
  · rw [show ((min (l.length : Int) (n : Int)) : Int).toNat = l.length by omega, List.take_length, List.take_of_length_le h]
  · rw [show ((min (l.length : Int) (n : Int)) : Int).toNat = n by omega]
theorem wakes6_f : Ev (fun k => imprimaturlaw06_wakes.f k) true := Ev.of (fun k => imprimaturlaw06_wakes.mono k) (k := 30) (by decide +kernel)
end Go.Proofs.Ytnomeokicfpidaa.M
