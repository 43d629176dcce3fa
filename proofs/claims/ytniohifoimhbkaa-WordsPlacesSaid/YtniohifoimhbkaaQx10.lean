-- printed by myprint.py: a program of this repo over the kit's print
import Derived.Test.YtniohifoimhbkaaQx0
namespace Go.Proofs.Ytniohifoimhbkaa.Q
open Go.RowKit Go.Proofs.YtniohifoimhbkaaW.PrintWords Go.Proofs.YtniohifoimhbkaaW.PrintLast Go.Proofs.YtniohifoimhbkaaW.PrintMore
attribute [local go_sem] max2_int min2_int max_two min_two max_three min_three max_four min_four   -- for this text's walks alone
set_option linter.unusedVariables false
set_option linter.unusedSimpArgs false

/-! ### stringslite_Index: function 14 (by hand) -/
def stringslite_Index.f (a0 a1 : ByteArray) : Option (Int) := match a1.data.toList with
  | [c] => some (Lib.indexByte a0.data.toList c)
  | _ => none
theorem stringslite_Index.calls (a0 a1 : ByteArray) (r : Int) (w : World) (h : stringslite_Index.f a0 a1 = some r) :
    Calls Try.prog 14 #[.string a0, .string a1] w fun e w' => e = .returned (.int .i64 r) ∧ Drawn0 w w' := by
  unfold stringslite_Index.f at h
  split at h
  · rename_i c e
    obtain rfl := Option.some.inj h
    obtain rfl : a1 = ⟨#[c]⟩ := by
      cases a1 with
      | mk d =>
        congr 1
        apply Array.toList_inj.1
        exact e
    refine (Try.stringslite_Index_one a0 c w).mono ?_
    rintro e' w' ⟨rfl, rfl⟩
    exact ⟨rfl, Drawn0.refl _⟩
  · exact absurd h (by simp)

end Go.Proofs.Ytniohifoimhbkaa.Q
