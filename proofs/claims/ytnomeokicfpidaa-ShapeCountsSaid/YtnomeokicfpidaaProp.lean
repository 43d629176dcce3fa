/-
  What the printed Proper answers: whether a set of states is a configuration. Conditions: a shape that is valid, a set below 2^32.
-/
import Derived.Test.YtnomeokicfpidaaOf
import Derived.Test.YtnomeokicfpidaaBits
import Derived.Test.YtnomeokicfpidaaQx0
import Derived.Test.YtnomeokicfpidaaQx5
import Derived.Test.YtnomeokicfpidaaQx7
import Derived.Test.YtnomeokicfpidaaQx9
namespace Go.Proofs.Ytnomeokicfpidaa.M
open Go.RowKit Go.Proofs.YtnomeokicfpidaaW.PrintWords Go.Proofs.YtnomeokicfpidaaW.PrintLast Go.Proofs.YtnomeokicfpidaaW.PrintMore Go.Proofs.Ytnomeokicfpidaa.Q
set_option linter.unusedVariables false

/-- How many of a list of states are in a set. -/
def cnt (s : Nat) (L : List Int) : Nat := L.countP (fun x => s.testBit x.toNat)
def heldB (K P : List Int) (s : Nat) (a : Int) (one : Bool) : Bool := if one = true then cnt s (kids P a) == min 1 (kids P a).length else cnt s (kids P a) == (kids P a).length
def atB (K P : List Int) (s : Nat) (i : Nat) : Bool := !s.testBit i || (solidB (K.getD i 0) && ((P.getD i 0 == -1 || s.testBit (P.getD i 0).toNat) && heldB K P s (i : Int) (K.getD i 0 == 1)))
def properB (K P : List Int) (s : Nat) : Bool := decide (s < 2 ^ K.length) && (heldB K P s (-1) true && (List.range' 0 K.length).all (atB K P s))

theorem held_l0 (s : Nat) (hs : s < 4294967296) (one : Bool) (L : List Int) (hL : ∀ x ∈ L, 0 ≤ x) (hl : L.length < 1099511627776) : ∀ (d i c : Nat), i + d = L.length → c ≤ i →
    Ev (fun k => shape_held.l0 k (s : Int) one L (c : Int) L (L.length : Int) (i : Int)) (if one = true then c + cnt s (L.drop i) == min 1 L.length else c + cnt s (L.drop i) == L.length) := by
  intro d
  induction d with
  | zero =>
    intro i c hi hc
    refine Ev.ret (fun k => ?_)
    simp only [shape_held.l0]
    rw [if_neg (by omega), List.drop_of_length_le (by omega), mn_eq]
    cases one with
    | true =>
      rw [if_pos rfl, if_pos rfl, show cnt s [] = 0 from rfl, Nat.add_zero]
      congr 1
      rw [Bool.eq_iff_iff, beq_iff_eq, beq_iff_eq]; omega
    | false =>
      rw [if_neg (by simp), if_neg (by simp), show cnt s [] = 0 from rfl, Nat.add_zero]
      congr 1
      rw [Bool.eq_iff_iff, beq_iff_eq, beq_iff_eq]; omega
  | succ d ih =>
    intro i c hi hc
    have hd : L.drop i = L.getD i 0 :: L.drop (i + 1) := by
      rw [List.drop_eq_getElem_cons (by omega), List.getD_eq_getElem?_getD, List.getElem?_eq_getElem (by omega)]; rfl
    have hm : L.getD i 0 ∈ L := by rw [List.getD_eq_getElem?_getD, List.getElem?_eq_getElem (by omega)]; exact List.getElem_mem _
    obtain ⟨x, hx⟩ := Int.eq_ofNat_of_zero_le (hL _ hm)
    have hcn : cnt s (L.drop i) = (if s.testBit x then 1 else 0) + cnt s (L.drop (i + 1)) := by
      rw [hd, hx]; unfold cnt; rw [List.countP_cons]
      simp only [Int.toNat_natCast]; omega
    rw [hcn]
    clear hcn
    have hw := w1 i (by omega)
    by_cases ht : s.testBit x = true
    · refine Ev.st (Ev.val (ih (i + 1) (c + 1) (by omega) (by omega)) (by rw [ht, if_pos rfl]; simp only [Nat.add_assoc])) (fun k => ?_)
      simp only [shape_held.l0]
      rw [if_pos (by omega), if_pos (by omega), if_pos (by omega), rd_nat, hx, if_pos (by omega), bit1 s x hs, ht, if_pos rfl, if_pos rfl, hw, w1 c (by omega)]
    · refine Ev.st (Ev.val (ih (i + 1) c (by omega) (by omega)) (by rw [eq_false_of_ne_true ht, if_neg (show ¬ (false = true) by simp), Nat.zero_add])) (fun k => ?_)
      simp only [shape_held.l0]
      rw [if_pos (by omega), if_pos (by omega), if_pos (by omega), rd_nat, hx, if_pos (by omega), bit1 s x hs, if_neg ht, if_neg (by omega), hw]
theorem held_f (K P : List Int) (s : Nat) (hs : s < 4294967296) (a : Int) (one : Bool) (hP : P.length < 1099511627776) : Ev (fun k => shape_held.f k K P (s : Int) a one) (heldB K P s a one) := by
  unfold shape_held.f
  refine Ev.bd (Kids_f K P a hP) ?_
  have h := held_l0 s hs one (kids P a) (fun x hx => by obtain ⟨j, rfl, _⟩ := mem_kids.1 hx; omega) (Nat.lt_of_le_of_lt (kids_len P a) hP) (kids P a).length 0 0 (by omega) (Nat.le_refl _)
  refine Ev.val h ?_
  unfold heldB
  simp only [List.drop_zero, Nat.zero_add]

theorem Proper_l0 (K P : List Int) (hn : P.length = K.length) (h24 : K.length ≤ 24) (hp : ∀ j, j < K.length → -1 ≤ P.getD j 0 ∧ P.getD j 0 < K.length) (s : Nat) (hs : s < 4294967296) : ∀ (d i : Nat), i + d = K.length →
    Ev (fun k => shape_Proper.l0 k (s : Int) K (K.length : Int) (i : Int) K P) ((List.range' i d).all (atB K P s)) := by
  intro d
  induction d with
  | zero =>
    intro i hi
    refine Ev.ret (fun k => ?_)
    simp only [shape_Proper.l0]
    rw [if_neg (by omega)]; simp
  | succ d ih =>
    intro i hi
    rw [List.range'_succ, List.all_cons]
    have ih' := ih (i + 1) (by omega)
    have hw := w1 i (by omega)
    have hpi := hp i (by omega)
    generalize hX : (List.range' (i + 1) d).all (atB K P s) = X at ih'
    by_cases hb : s.testBit i = true
    · by_cases hk : solidB (K.getD i 0) = true
      · have hh := held_f K P s hs (i : Int) (K.getD i 0 == 1) (by omega)
        have tail : Ev (fun k => (shape_held.f k K P (s : Int) (i : Int) (K.getD i 0 == 1)).bind fun t => if t = true then shape_Proper.l0 k (s : Int) K (K.length : Int) ((i + 1 : Nat) : Int) K P else some false) (heldB K P s (i : Int) (K.getD i 0 == 1) && X) := by
          refine Ev.bd hh (Ev.iff (fun h => ?_) (fun h => ?_))
          · rw [h]; exact ih'
          · rw [eq_false_of_ne_true h]; exact Ev.now _
        by_cases h1 : P.getD i 0 = -1
        · refine Ev.st (Ev.val tail (by unfold atB; rw [hb, hk, h1]; simp)) (fun k => ?_)
          simp only [shape_Proper.l0]
          rw [if_pos (by omega), if_pos (by omega), if_pos (by omega), bit1 s i hs, if_pos hb, if_pos rfl, rd_nat, solid_f, Option.bind_some, if_pos hk, if_pos (by omega), rd_nat, if_pos h1, hw]
        · obtain ⟨p, hpe⟩ := Int.eq_ofNat_of_zero_le (show 0 ≤ P.getD i 0 by omega)
          by_cases ht : s.testBit p = true
          · refine Ev.st (Ev.val tail (by unfold atB; rw [hb, hk, hpe, Int.toNat_natCast, ht]; simp)) (fun k => ?_)
            simp only [shape_Proper.l0]
            rw [if_pos (by omega), if_pos (by omega), if_pos (by omega), bit1 s i hs, if_pos hb, if_pos rfl, rd_nat, solid_f, Option.bind_some, if_pos hk, if_pos (by omega), rd_nat, if_neg h1, hpe, if_pos (by omega), bit1 s p hs, if_pos ht, if_neg (by omega), hw]
          · refine Ev.ret (fun k => ?_)
            simp only [shape_Proper.l0]
            rw [if_pos (by omega), if_pos (by omega), if_pos (by omega), bit1 s i hs, if_pos hb, if_pos rfl, rd_nat, solid_f, Option.bind_some, if_pos hk, if_pos (by omega), rd_nat, if_neg h1, hpe, if_pos (by omega), bit1 s p hs, if_neg ht, if_pos rfl]
            unfold atB
            rw [hb, hk, hpe, Int.toNat_natCast, eq_false_of_ne_true ht, show ((p : Int) == -1) = false from beq_eq_false_iff_ne.mpr (by omega)]; rfl
      · refine Ev.ret (fun k => ?_)
        simp only [shape_Proper.l0]
        rw [if_pos (by omega), if_pos (by omega), if_pos (by omega), bit1 s i hs, if_pos hb, if_pos rfl, rd_nat, solid_f, Option.bind_some, if_neg hk]
        unfold atB; rw [hb, eq_false_of_ne_true hk]; rfl
    · refine Ev.st (Ev.val ih' (by unfold atB; rw [eq_false_of_ne_true hb]; rfl)) (fun k => ?_)
      simp only [shape_Proper.l0]
      rw [if_pos (by omega), if_pos (by omega), if_pos (by omega), bit1 s i hs, if_neg hb, if_neg (by omega), hw]

theorem Proper_f (K P : List Int) (hn : P.length = K.length) (h24 : K.length ≤ 24) (hp : ∀ j, j < K.length → -1 ≤ P.getD j 0 ∧ P.getD j 0 < K.length) (s : Nat) (hs : s < 4294967296) :
    Ev (fun k => shape_Proper.f k K P (s : Int)) (properB K P s) := by
  have hl : bits_Len32.f (s : Int) = some ((Lib.bitLen s : Nat) : Int) := by
    unfold bits_Len32.f
    rw [if_pos (by omega), if_pos (by omega), Int.toNat_natCast]
  have hb := bitLen_le K.length s (by omega)
  have j0 : ∀ b : Bool, Ev (fun k => shape_Proper.j0 k (s : Int) b K P) (!b && (List.range' 0 K.length).all (atB K P s)) := by
    intro b
    cases b with
    | true =>
      refine Ev.ret (fun k => ?_)
      simp only [shape_Proper.j0]
      rw [if_pos trivial]; rfl
    | false =>
      refine Ev.st (Proper_l0 K P hn h24 hp s hs K.length 0 (by omega)) (fun k => ?_)
      simp only [shape_Proper.j0]
      rw [if_neg (by simp)]; rfl
  unfold shape_Proper.f
  simp only [hl, Option.bind_some]
  unfold properB
  by_cases hc : s < 2 ^ K.length
  · rw [decide_eq_true hc, Bool.true_and]
    refine Ev.neg (by have := hb.2 hc; omega) ?_
    refine Ev.bd (held_f K P s hs (-1) true (by omega)) (Ev.val (j0 _) (by simp))
  · rw [decide_eq_false hc, Bool.false_and]
    exact Ev.pos (by have := fun h => hc (hb.1 h); omega) (Ev.val (j0 true) rfl)
end Go.Proofs.Ytnomeokicfpidaa.M
