/-
  The law ShapeCounts, pure: a shape has as many configurations as its regions, multiplied, and its alternatives, added, tell. Conditions: those of the given statement.
-/
import Derived.Test.YtnomeokicfpidaaCount
import Derived.Test.YtnomeokicfpidaaQx0
import Derived.Test.YtnomeokicfpidaaQx9
import Derived.Test.YtnomeokicfpidaaQx10
import Derived.Test.YtnomeokicfpidaaQx11
import Derived.Test.YtnomeokicfpidaaQx12
namespace Go.Proofs.Ytnomeokicfpidaa.Pure
open Go.RowKit Go.Proofs.YtnomeokicfpidaaW.PrintWords Go.Proofs.YtnomeokicfpidaaW.PrintLast Go.Proofs.YtnomeokicfpidaaW.PrintMore Go.Proofs.Ytnomeokicfpidaa.Q Go.Proofs.Ytnomeokicfpidaa.M
set_option linter.unusedVariables false

theorem proper_LP {K P : List Int} (hI : Inv K P) (s : Nat) : properB K P s = true ↔ LP K P (-1) s := by
  have hT := hI.tree
  have hn := hI.1
  unfold properB
  rw [Bool.and_eq_true, decide_eq_true_eq, Bool.and_eq_true, List.all_eq_true]
  constructor
  · rintro ⟨h1, h2, h3⟩
    have h3' : ∀ j : Nat, s.testBit j = true → j < K.length ∧ atB K P s j = true := by
      intro j hj
      have : j < K.length := by
        rcases Nat.lt_or_ge j K.length with h | h
        · exact h
        · have := Nat.testBit_lt_two_pow (Nat.lt_of_lt_of_le h1 (Nat.pow_le_pow_right (by decide : 0 < 2) h))
          rw [hj] at this; cases this
      exact ⟨this, h3 j (List.mem_range'_1.2 ⟨by omega, by omega⟩)⟩
    have at' : ∀ j : Nat, s.testBit j = true → solidB (K.getD j 0) = true ∧ (P.getD j 0 = -1 ∨ s.testBit (P.getD j 0).toNat = true) ∧ heldB K P s (j : Int) (K.getD j 0 == 1) = true := by
      intro j hj
      have := (h3' j hj).2
      unfold atB at this
      rw [hj, Bool.not_true, Bool.false_or, Bool.and_eq_true, Bool.and_eq_true, Bool.or_eq_true, beq_iff_eq] at this
      exact this
    refine ⟨fun j hj => ?_, ?_, fun j hj => ?_⟩
    · have hjn := (h3' j hj).1
      obtain ⟨a1, a2, a3⟩ := at' j hj
      have ht := hT j (by omega)
      refine ⟨hjn, by omega, Un.top hT (j + 1) (j : Int) (by omega) (by omega) (by omega), a1, ?_⟩
      rcases a2 with a2 | a2
      · exact .inl a2
      · by_cases e : P.getD j 0 = -1
        · exact .inl e
        · exact .inr ⟨by omega, a2⟩
    · rw [show one K (-1) = true from rfl]; exact h2
    · rw [one_nat]; exact (at' j hj).2.2
  · intro h
    refine ⟨Nat.lt_pow_two_of_testBit s (fun i hi => eq_false_of_ne_true fun hb => by have := (h.mem i hb).1; omega), ?_, fun j hj => ?_⟩
    · have := h.own
      rwa [show one K (-1) = true from rfl] at this
    · unfold atB
      by_cases hb : s.testBit j = true
      · obtain ⟨b1, b2, b3, b4, b5⟩ := h.mem j hb
        have b6 := h.all j hb
        rw [one_nat] at b6
        rw [hb, b4, b6]
        rcases b5 with b5 | b5
        · rw [b5]; rfl
        · rw [b5.2]; simp
      · rw [eq_false_of_ne_true hb]; rfl

theorem count_l0 {K P : List Int} (hI : Inv K P) (h12 : K.length ≤ 12) : ∀ (d x c : Nat), x + d = 2 ^ K.length → c ≤ x →
    Ev (fun k => imprimaturlaw06_ShapeCounts.l0 k (c : Int) (x : Int) K P) (decide (c + ((List.range' x d).countP (properB K P)) = (confs K P (K.length + 1) (-1)).length)) := by
  have hn := hI.1
  have h1 := hI.2.1
  have hbig : (2 : Nat) ^ K.length ≤ 2 ^ 12 := Nat.pow_le_pow_right (by decide) h12
  have hb : (2 : Nat) ^ K.length ≤ 4096 := hbig
  clear hbig
  have hsh : shl .u32 1 (K.length : Int) = ((2 ^ K.length : Nat) : Int) := shl_one K.length (by omega)
  have hu := u64w K.length (by omega)
  have hp : ∀ j, j < K.length → -1 ≤ P.getD j 0 ∧ P.getD j 0 < K.length := fun j hj => by
    have := hI.tree j (by omega)
    omega
  generalize 2 ^ K.length = N at hb hsh
  intro d
  induction d with
  | zero =>
    intro x c hx hc
    have hw := ways_f hI (by omega) (K.length + 1) (-1) (by omega) (by omega) (by omega)
    refine Ev.st (f := fun k => (imprimaturlaw06_ways.f k K P (-1)).bind fun t119 => (if (c : Int) = t119 then ((imprimaturlaw06_wakes.f k).bind fun t120 => (some t120)) else (some false))) (Ev.bd hw ?_) (fun k => ?_)
    · simp only [List.range'_zero, List.countP_nil, Nat.add_zero]
      by_cases e : c = (confs K P (K.length + 1) (-1)).length
      · rw [decide_eq_true e]
        exact Ev.pos (by omega) (Ev.bd wakes6_f (Ev.now _))
      · rw [decide_eq_false e]
        exact Ev.neg (by omega) (Ev.now _)
    · simp only [imprimaturlaw06_ShapeCounts.l0]
      rw [hu, if_pos (by omega), hsh, if_neg (by omega)]
  | succ d ih =>
    intro x c hx hc
    have hpr := Proper_f K P hn (by omega) hp x (by omega)
    rw [List.range'_succ, List.countP_cons]
    refine Ev.st (f := fun k => (shape_Proper.f k K P (x : Int)).bind fun t118 => (if t118 = true then (imprimaturlaw06_ShapeCounts.l0 k (wrap64 ((c : Int) + 1)) (((x : Int) + 1) % 4294967296) K P) else (imprimaturlaw06_ShapeCounts.l0 k (c : Int) (((x : Int) + 1) % 4294967296) K P))) (Ev.bd hpr ?_) (fun k => ?_)
    · have ex : ((x : Int) + 1) % 4294967296 = ((x + 1 : Nat) : Int) := by omega
      rw [ex, w1 c (by omega)]
      refine Ev.iff (fun h => ?_) (fun h => ?_)
      · refine Ev.val (ih (x + 1) (c + 1) (by omega) (by omega)) ?_
        rw [if_pos h]
        congr 1
        exact propext (by omega)
      · refine Ev.val (ih (x + 1) c (by omega) (by omega)) ?_
        rw [if_neg h]; rfl
    · simp only [imprimaturlaw06_ShapeCounts.l0]
      rw [hu, if_pos (by omega), hsh, if_pos (by omega)]

theorem ShapeCounts : imprimaturlaw06_ShapeCounts.Pure := by
  intro l0 _ _ _
  refine Ev.rounds (r := true) ?_
  unfold imprimaturlaw06_ShapeCounts.f
  have h0 := cut_f l0 9 (by omega)
  rw [show ((9 : Nat) : Int) = 9 from rfl] at h0
  simp only [h0, Option.bind_some]
  obtain ⟨⟨K, P, K', P'⟩, hE, hI, e1, e2, hlen⟩ := of_f (l0.take 9) (by rw [List.length_take]; omega)
  rw [List.length_take] at hlen
  simp only at hI hlen
  refine Ev.bd hE ?_
  refine Ev.val (count_l0 hI (by omega) (2 ^ K.length) 0 0 (by omega) (Nat.le_refl _)) ?_
  rw [decide_eq_true_eq, Nat.zero_add, List.countP_eq_length_filter]
  have hd : ((List.range' 0 (2 ^ K.length)).filter (properB K P)).Nodup := List.Pairwise.filter _ (List.nodup_range' (s := 0) (n := 2 ^ K.length) 1)
  refine List.Perm.length_eq ((List.perm_ext_iff_of_nodup hd (nodup_confs hI (K.length + 1) (-1) (by omega) (by have := hI.2.1; omega) (by omega))).2 fun s => ?_)
  rw [List.mem_filter, mem_confs hI (K.length + 1) (-1) (by omega) (by have := hI.2.1; omega) (by omega), ← proper_LP hI, List.mem_range'_1]
  constructor
  · exact fun h => h.2
  · intro h
    refine ⟨⟨Nat.zero_le _, ?_⟩, h⟩
    have h' := h
    unfold properB at h'
    rw [Bool.and_eq_true, decide_eq_true_eq] at h'
    rw [Nat.zero_add]; exact h'.1
end Go.Proofs.Ytnomeokicfpidaa.Pure
