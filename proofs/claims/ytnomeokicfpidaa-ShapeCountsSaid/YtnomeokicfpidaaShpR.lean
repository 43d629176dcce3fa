/-
  What the printed Valid of imprimaturref06's shapes answers: the same as shape.Valid. And the law ShapeRaw, pure. Conditions: none beyond each lemma's own.
-/
import Derived.Test.YtnomeokicfpidaaShp
import Derived.Test.YtnomeokicfpidaaQx0
import Derived.Test.YtnomeokicfpidaaQx13
import Derived.Test.YtnomeokicfpidaaQx19
import Derived.Test.YtnomeokicfpidaaQx20
namespace Go.Proofs.Ytnomeokicfpidaa.M
open Go.RowKit Go.Proofs.YtnomeokicfpidaaW.PrintWords Go.Proofs.YtnomeokicfpidaaW.PrintLast Go.Proofs.YtnomeokicfpidaaW.PrintMore Go.Proofs.Ytnomeokicfpidaa.Q
set_option linter.unusedVariables false

theorem okS_iff {K P : List Int} {i : Nat} : okS K P i = true ↔ 1 ≤ K.getD i 0 ∧ K.getD i 0 ≤ 4 ∧ -1 ≤ P.getD i 0 ∧ P.getD i 0 < i ∧
    (if P.getD i 0 = -1 then solidB (K.getD i 0) else solidB (rd K (P.getD i 0)) && (solidB (K.getD i 0) || rd K (P.getD i 0) == 1)) = true := by
  unfold okS
  simp only [Bool.and_eq_true, decide_eq_true_eq]

theorem rValid_l1 (K P : List Int) (hn : P.length = K.length) (h24 : K.length ≤ 24) (hK : ∀ j : Nat, j < K.length → 1 ≤ K.getD j 0) : ∀ (d i : Nat), i + d = K.length →
    Ev (fun k => imprimaturref06_Shape_Valid.l1 k (K.length : Int) (i : Int) K P) ((List.range' i d).all (fun j => compB K P (j : Int))) := by
  intro d
  induction d with
  | zero =>
    intro i hi
    refine Ev.ret (fun k => ?_)
    simp only [imprimaturref06_Shape_Valid.l1]
    rw [if_neg (by omega)]; simp
  | succ d ih =>
    intro i hi
    rw [List.range'_succ, List.all_cons]
    refine Ev.st (f := fun k => (imprimaturref06_Shape_Kids.f k K P (i : Int)).bind fun t => if (t.length : Int) > 0 then (imprimaturref06_Shape_Initial.f k K P (i : Int)).bind fun t2 => (if t2 < 0 then some false else imprimaturref06_Shape_Valid.l1 k (K.length : Int) (wrap64 ((i : Int) + 1)) K P) else imprimaturref06_Shape_Valid.l1 k (K.length : Int) (wrap64 ((i : Int) + 1)) K P) ?_ (fun k => ?_)
    · refine Ev.bd (rKids_f K P _ (by omega)) ?_
      rw [w1 i (by omega)]
      have hc : compB K P (i : Int) = ((kids P (i : Int)).isEmpty || decide (0 ≤ initial K P (i : Int))) := by
        unfold compB; rw [show ((i : Int) != -1) = true from bne_iff_ne.mpr (by omega)]; simp
      rw [hc]
      refine Ev.iff (fun h => ?_) (fun h => ?_)
      · have he : (kids P (i : Int)).isEmpty = false := by cases hk : kids P (i : Int) <;> simp_all
        rw [he]
        refine Ev.bd (rInitial_f K P _ hn hK (by omega)) ?_
        refine Ev.iff (fun h => ?_) (fun h => ?_)
        · rw [decide_eq_false (by omega)]; exact Ev.now _
        · rw [decide_eq_true (by omega)]; simpa using ih (i + 1) (by omega)
      · have he : (kids P (i : Int)).isEmpty = true := by cases hk : kids P (i : Int) <;> simp_all
        rw [he]; simpa using ih (i + 1) (by omega)
    · simp only [imprimaturref06_Shape_Valid.l1]
      rw [if_pos (by omega), if_neg (by omega)]
theorem rValid_l1m (K P : List Int) (hn : P.length = K.length) (h24 : K.length ≤ 24) (hK : ∀ j : Nat, j < K.length → 1 ≤ K.getD j 0) :
    Ev (fun k => imprimaturref06_Shape_Valid.l1 k (K.length : Int) (-1) K P) (compsB K P) := by
  refine Ev.st (f := fun k => (imprimaturref06_Shape_Initial.f k K P (-1)).bind fun t2 => (if t2 < 0 then some false else imprimaturref06_Shape_Valid.l1 k (K.length : Int) (wrap64 ((-1) + 1)) K P)) ?_ (fun k => ?_)
  · refine Ev.bd (rInitial_f K P _ hn hK (by omega)) ?_
    have hc : compB K P (-1) = decide (0 ≤ initial K P (-1)) := by unfold compB; simp
    unfold compsB; rw [hc]
    refine Ev.iff (fun h => ?_) (fun h => ?_)
    · rw [decide_eq_false (by omega)]; exact Ev.now _
    · rw [decide_eq_true (by omega), show wrap64 ((-1) + 1) = ((0 : Nat) : Int) by rw [w64 (by omega) (by omega)]; rfl]; simpa using rValid_l1 K P hn h24 hK K.length 0 (by omega)
  · simp only [imprimaturref06_Shape_Valid.l1]
    rw [if_pos (by omega), if_pos (by omega)]

theorem rValid_l0 (K P : List Int) (hn : P.length = K.length) (h24 : K.length ≤ 24) : ∀ (d i : Nat), i + d = K.length → (∀ j : Nat, j < i → okS K P j = true) →
    Ev (fun k => imprimaturref06_Shape_Valid.l0 k (K.length : Int) (i : Int) K P) ((List.range' i d).all (okS K P) && compsB K P) := by
  intro d
  induction d with
  | zero =>
    intro i hi hok
    refine Ev.st (Ev.val (rValid_l1m K P hn h24 (fun j hj => (okS_iff.1 (hok j (by omega))).1)) (by simp)) (fun k => ?_)
    simp only [imprimaturref06_Shape_Valid.l0]
    rw [if_neg (by omega)]
  | succ d ih =>
    intro i hi hok
    rw [List.range'_succ, List.all_cons]
    have hw := w1 i (by omega)
    have hx : okS K P i = true → Ev (fun k => imprimaturref06_Shape_Valid.l0 k (K.length : Int) ((i + 1 : Nat) : Int) K P) (okS K P i && (List.range' (i + 1) d).all (okS K P) && compsB K P) := by
      intro h
      rw [h, Bool.true_and]
      exact ih (i + 1) (by omega) (fun j hj => if h' : j < i then hok j h' else (show j = i by omega) ▸ h)
    have hF : okS K P i = false → (okS K P i && (List.range' (i + 1) d).all (okS K P) && compsB K P) = false := fun h => by rw [h]; rfl
    generalize hX : (okS K P i && (List.range' (i + 1) d).all (okS K P) && compsB K P) = X at hx hF ⊢
    have hf : (1 ≤ K.getD i 0 → K.getD i 0 ≤ 4 → -1 ≤ P.getD i 0 → False) → Ev (fun k => imprimaturref06_Shape_Valid.j2 k (K.length : Int) (i : Int) (K.getD i 0) (P.getD i 0) true K P) X := by
      intro hc
      rw [hF (eq_false_of_ne_true fun h => by obtain ⟨a, b, c, _⟩ := okS_iff.1 h; exact hc a b c)]
      refine Ev.ret (fun k => ?_)
      simp only [imprimaturref06_Shape_Valid.j2]
      rw [if_pos trivial]
    have hj : ∀ b : Bool, b = decide (P.getD i 0 ≥ (i : Int)) → 1 ≤ K.getD i 0 → K.getD i 0 ≤ 4 → -1 ≤ P.getD i 0 → Ev (fun k => imprimaturref06_Shape_Valid.j2 k (K.length : Int) (i : Int) (K.getD i 0) (P.getD i 0) b K P) X := by
      intro b hb h1 h2 h3
      by_cases h4 : P.getD i 0 < i
      · have hb' : b = false := by rw [hb, decide_eq_false (by omega)]
        subst hb'
        have j3 : ∀ c : Bool, c = (decide (P.getD i 0 ≠ -1) && !solidB (rd K (P.getD i 0))) → Ev (fun k => imprimaturref06_Shape_Valid.j3 k (K.length : Int) (i : Int) (K.getD i 0) (P.getD i 0) c K P) X := by
          intro c hc
          cases c with
          | true =>
            have hc' := hc.symm
            simp only [Bool.and_eq_true, decide_eq_true_eq, Bool.not_eq_true'] at hc'
            rw [hF (eq_false_of_ne_true fun h => by
              obtain ⟨_, _, _, _, e⟩ := okS_iff.1 h
              rw [if_neg hc'.1, hc'.2] at e; exact absurd e (by simp))]
            refine Ev.ret (fun k => ?_)
            simp only [imprimaturref06_Shape_Valid.j3]
            rw [if_pos trivial]
          | false =>
            have hc' : P.getD i 0 = -1 ∨ solidB (rd K (P.getD i 0)) = true := by
              by_cases h5 : P.getD i 0 = -1
              · exact .inl h5
              · rw [decide_eq_true h5, Bool.true_and] at hc
                right; cases h6 : solidB (rd K (P.getD i 0)) with
                | true => rfl
                | false => rw [h6] at hc; exact absurd hc (by simp)
            have hsol : ∀ {x : Int}, 1 ≤ x → x ≤ 4 → ¬ x ≥ 3 → solidB x = true := fun a b c => solidB_iff.2 (by omega)
            have hnsol : ∀ {x : Int}, x ≥ 3 → solidB x = false := fun a => eq_false_of_ne_true fun h => by have := solidB_iff.1 h; omega
            by_cases h6 : K.getD i 0 ≥ 3
            · by_cases h7 : P.getD i 0 < 0
              · rw [hF (eq_false_of_ne_true fun h => by
                  obtain ⟨_, _, _, _, e⟩ := okS_iff.1 h
                  rw [if_pos (by omega), hnsol h6] at e; exact absurd e (by simp))]
                refine Ev.ret (fun k => ?_)
                simp only [imprimaturref06_Shape_Valid.j3]
                rw [if_neg (by simp), if_pos h6, if_pos h7]
              · by_cases h8 : rd K (P.getD i 0) = 1
                · refine Ev.st (hx (okS_iff.2 ⟨h1, h2, h3, h4, ?_⟩)) (fun k => ?_)
                  · rw [if_neg (by omega), h8]; simp [solidB]
                  · simp only [imprimaturref06_Shape_Valid.j3]
                    rw [if_neg (by simp), if_pos h6, if_neg h7, if_pos (by omega), if_pos (by omega), if_pos h8, hw]
                · rw [hF (eq_false_of_ne_true fun h => by
                    obtain ⟨_, _, _, _, e⟩ := okS_iff.1 h
                    rw [if_neg (by omega), hnsol h6, beq_eq_false_iff_ne.mpr h8] at e; exact absurd e (by simp))]
                  refine Ev.ret (fun k => ?_)
                  simp only [imprimaturref06_Shape_Valid.j3]
                  rw [if_neg (by simp), if_pos h6, if_neg h7, if_pos (by omega), if_pos (by omega), if_neg h8]
            · refine Ev.st (hx (okS_iff.2 ⟨h1, h2, h3, h4, ?_⟩)) (fun k => ?_)
              · rw [hsol h1 h2 h6]
                rcases hc' with h5 | h5
                · rw [if_pos h5]
                · rw [h5]; split <;> rfl
              · simp only [imprimaturref06_Shape_Valid.j3]
                rw [if_neg (by simp), if_neg h6, hw]
        by_cases h5 : P.getD i 0 ≥ 0
        · by_cases h8 : rd K (P.getD i 0) = 1
          · refine Ev.st (j3 false (by rw [h8]; simp [solidB])) (fun k => ?_)
            simp only [imprimaturref06_Shape_Valid.j2]
            rw [if_neg (by simp), if_pos h5, if_pos h5, if_pos (by omega), if_pos h8]
          · refine Ev.st (j3 (rd K (P.getD i 0) != 2) ?_) (fun k => ?_)
            · rw [decide_eq_true (by omega)]; unfold solidB; rw [beq_eq_false_iff_ne.mpr h8]; simp [bne]
            · simp only [imprimaturref06_Shape_Valid.j2]
              rw [if_neg (by simp), if_pos h5, if_pos h5, if_pos (by omega), if_neg h8]
        · refine Ev.st (j3 false (by rw [decide_eq_false (by omega)]; rfl)) (fun k => ?_)
          simp only [imprimaturref06_Shape_Valid.j2]
          rw [if_neg (by simp), if_neg h5]
      · have hb' : b = true := by rw [hb, decide_eq_true (by omega)]
        subst hb'
        rw [hF (eq_false_of_ne_true fun h => by obtain ⟨_, _, _, e, _⟩ := okS_iff.1 h; exact h4 e)]
        refine Ev.ret (fun k => ?_)
        simp only [imprimaturref06_Shape_Valid.j2]
        rw [if_pos trivial]
    refine Ev.st (f := fun k => if (K.getD i 0) < 1 then (imprimaturref06_Shape_Valid.j2 k (K.length : Int) (i : Int) (K.getD i 0) (P.getD i 0) true K P) else (if (K.getD i 0) > 4 then (imprimaturref06_Shape_Valid.j2 k (K.length : Int) (i : Int) (K.getD i 0) (P.getD i 0) true K P) else (if (P.getD i 0) < (-1) then (imprimaturref06_Shape_Valid.j2 k (K.length : Int) (i : Int) (K.getD i 0) (P.getD i 0) true K P) else (imprimaturref06_Shape_Valid.j2 k (K.length : Int) (i : Int) (K.getD i 0) (P.getD i 0) (decide ((P.getD i 0) ≥ (i : Int))) K P)))) ?_ (fun k => ?_)
    · refine Ev.iff (fun h => hf (fun _ _ _ => by omega)) (fun h1 => Ev.iff (fun h => hf (fun _ _ _ => by omega)) (fun h2 => Ev.iff (fun h => hf (fun _ _ _ => by omega)) (fun h3 => hj _ rfl (by omega) (by omega) (by omega))))
    · simp only [imprimaturref06_Shape_Valid.l0]
      rw [if_pos (by omega), if_pos (by omega), if_pos (by omega), if_pos (by omega)]
      simp only [rd_nat]

theorem rValid_f (K P : List Int) : Ev (fun k => imprimaturref06_Shape_Valid.f k K P) (validB K P) := by
  unfold imprimaturref06_Shape_Valid.f
  by_cases h1 : (K.length : Int) < 1
  · simp only [if_pos h1]
    refine Ev.ret (fun k => ?_)
    simp only [imprimaturref06_Shape_Valid.j0]
    rw [if_pos trivial]; unfold validB; rw [decide_eq_false (by omega)]; rfl
  · by_cases h2 : (K.length : Int) > 24
    · simp only [if_neg h1, if_pos h2]
      refine Ev.ret (fun k => ?_)
      simp only [imprimaturref06_Shape_Valid.j0]
      rw [if_pos trivial]; unfold validB; rw [decide_eq_false (by omega)]; rfl
    · simp only [if_neg h1, if_neg h2]
      by_cases h3 : P.length = K.length
      · rw [show ((P.length : Int) != (K.length : Int)) = false by simp [h3]]
        refine Ev.st (Ev.val (rValid_l0 K P h3 (by omega) K.length 0 (by omega) (fun j hj => by omega)) ?_) (fun k => ?_)
        · unfold validB; rw [decide_eq_true (by omega)]; simp
        · simp only [imprimaturref06_Shape_Valid.j0]
          rw [if_neg (by simp)]; rfl
      · rw [show ((P.length : Int) != (K.length : Int)) = true by simp; omega]
        refine Ev.ret (fun k => ?_)
        simp only [imprimaturref06_Shape_Valid.j0]
        rw [if_pos trivial]; unfold validB; rw [decide_eq_false (by omega)]; rfl
end Go.Proofs.Ytnomeokicfpidaa.M
