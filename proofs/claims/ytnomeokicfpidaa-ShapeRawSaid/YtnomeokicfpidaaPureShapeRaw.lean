/-
  The law ShapeRaw, pure: whatever kinds and parents are given, shape.Valid answers what the reference answers. Conditions: those of the given statement.
-/
import Derived.Test.YtnomeokicfpidaaShpR
import Derived.Test.YtnomeokicfpidaaKeep
import Derived.Test.YtnomeokicfpidaaQx0
import Derived.Test.YtnomeokicfpidaaQx11
import Derived.Test.YtnomeokicfpidaaQx17
import Derived.Test.YtnomeokicfpidaaQx20
import Derived.Test.YtnomeokicfpidaaQx21
namespace Go.Proofs.Ytnomeokicfpidaa.Pure
open Go.RowKit Go.Proofs.YtnomeokicfpidaaW.PrintWords Go.Proofs.YtnomeokicfpidaaW.PrintLast Go.Proofs.YtnomeokicfpidaaW.PrintMore Go.Proofs.Ytnomeokicfpidaa.Q Go.Proofs.Ytnomeokicfpidaa.M
set_option linter.unusedVariables false

theorem same_valid (x y : List Int) : Ev (fun k => (shape_Valid.f k x y).bind fun t418 => ((imprimaturref06_Shape_Valid.f k x y).bind fun t419 => (if (t418 == t419) = true then ((imprimaturlaw06_wakes.f k).bind fun t420 => (some t420)) else (some false)))) true := by
  refine Ev.bd (Valid_f x y) (Ev.bd (rValid_f x y) ?_)
  rw [show (validB x y == validB x y) = true by simp]
  exact Ev.pos rfl (Ev.bd wakes6_f (Ev.now _))
theorem raw_l1 (x0 : List Int) : ∀ (d i : Nat) (x1 : List Int), x1.length ≤ 8 → i + d = x1.length →
    Ev (fun k => imprimaturlaw06_ShapeRaw.l1 k x0 x1 (x1.length : Int) (i : Int)) true := by
  intro d
  induction d with
  | zero =>
    intro i x1 h8 hi
    refine Ev.st (f := fun k => (shape_Valid.f k (x0.take ((mn (x0.length : Int) (x1.length : Int)) : Int).toNat) (x1.take ((mn (x0.length : Int) (x1.length : Int)) : Int).toNat)).bind fun t418 => ((imprimaturref06_Shape_Valid.f k (x0.take ((mn (x0.length : Int) (x1.length : Int)) : Int).toNat) (x1.take ((mn (x0.length : Int) (x1.length : Int)) : Int).toNat)).bind fun t419 => (if (t418 == t419) = true then ((imprimaturlaw06_wakes.f k).bind fun t420 => (some t420)) else (some false)))) (same_valid _ _) (fun k => ?_)
    simp only [imprimaturlaw06_ShapeRaw.l1]
    have hm := mn_eq (x0.length : Int) (x1.length : Int)
    rw [if_neg (by omega), if_pos (by omega), if_pos (by omega)]
    simp only [Option.bind_some]
    rw [if_pos (by omega)]
  | succ d ih =>
    intro i x1 h8 hi
    obtain ⟨v, hv⟩ : ∃ v, wrap64 (rd x1 (i : Int) % ((i + 1 : Nat) : Int) - 1) = v := ⟨_, rfl⟩
    have ih' := ih (i + 1) (x1.set i v) (by simpa using h8) (by simp; omega)
    rw [List.length_set] at ih'
    refine Ev.st ih' (fun k => ?_)
    simp only [imprimaturlaw06_ShapeRaw.l1]
    rw [if_pos (by omega), if_pos (by omega), if_pos (by omega), w1 i (by omega), within_f _ _ (by omega) (by omega), Option.bind_some, hv, Int.toNat_natCast]
theorem raw_l0 (x1 : List Int) (h8' : x1.length ≤ 8) : ∀ (d i : Nat) (x0 : List Int), x0.length ≤ 8 → i + d = x0.length →
    Ev (fun k => imprimaturlaw06_ShapeRaw.l0 k x0 x1 (x0.length : Int) (i : Int)) true := by
  intro d
  induction d with
  | zero =>
    intro i x0 h8 hi
    refine Ev.st (raw_l1 x0 x1.length 0 x1 h8' (by omega)) (fun k => ?_)
    simp only [imprimaturlaw06_ShapeRaw.l0]
    rw [if_neg (by omega)]; rfl
  | succ d ih =>
    intro i x0 h8 hi
    obtain ⟨v, hv⟩ : ∃ v, wrap64 (1 + rd x0 (i : Int) % 4) = v := ⟨_, rfl⟩
    have ih' := ih (i + 1) (x0.set i v) (by simpa using h8) (by simp; omega)
    rw [List.length_set] at ih'
    refine Ev.st ih' (fun k => ?_)
    simp only [imprimaturlaw06_ShapeRaw.l0]
    rw [if_pos (by omega), if_pos (by omega), if_pos (by omega), w1 i (by omega), within_f _ _ (by omega) (by omega), Option.bind_some, hv, Int.toNat_natCast]
theorem ShapeRaw : imprimaturlaw06_ShapeRaw.Pure := by
  intro l0 l1 a2 _ _ _ _ _ _ _
  refine Ev.rounds (r := true) ?_
  unfold imprimaturlaw06_ShapeRaw.f
  have h0 := cut_f l0 8 (by omega)
  have h1 := cut_f l1 8 (by omega)
  rw [show ((8 : Nat) : Int) = 8 from rfl] at h0 h1
  simp only [h0, h1, Option.bind_some]
  refine Ev.iff (fun _ => same_valid _ _) (fun _ => ?_)
  exact raw_l0 (l1.take 8) (by rw [List.length_take]; omega) (l0.take 8).length 0 (l0.take 8) (by rw [List.length_take]; omega) (by omega)
end Go.Proofs.Ytnomeokicfpidaa.Pure
