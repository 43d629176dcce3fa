/-
  What the printed functions of the packages shape and imprimaturref06 (shapes) answer, in plain words. Conditions: none beyond each lemma's own.
-/
import Derived.Test.YtnomeokicfpidaaMth
import Derived.Test.YtnomeokicfpidaaQx0
import Derived.Test.YtnomeokicfpidaaQx6
import Derived.Test.YtnomeokicfpidaaQx8
import Derived.Test.YtnomeokicfpidaaQx13
import Derived.Test.YtnomeokicfpidaaQx16
import Derived.Test.YtnomeokicfpidaaQx17
import Derived.Test.YtnomeokicfpidaaQx19
namespace Go.Proofs.Ytnomeokicfpidaa.M
open Go.RowKit Go.Proofs.YtnomeokicfpidaaW.PrintWords Go.Proofs.YtnomeokicfpidaaW.PrintLast Go.Proofs.YtnomeokicfpidaaW.PrintMore Go.Proofs.Ytnomeokicfpidaa.Q
set_option linter.unusedVariables false

def solidB (k : Int) : Bool := k == 1 || k == 2
def kidsFrom (P : List Int) (at_ : Int) (i d : Nat) : List Int := ((List.range' i d).filter (fun j => decide (P.getD j 0 = at_))).map (fun j : Nat => (j : Int))
def kids (P : List Int) (at_ : Int) : List Int := kidsFrom P at_ 0 P.length

theorem kidsFrom_succ (P : List Int) (a : Int) (i d : Nat) : kidsFrom P a i (d + 1) = if P.getD i 0 = a then (i : Int) :: kidsFrom P a (i + 1) d else kidsFrom P a (i + 1) d := by
  unfold kidsFrom
  rw [List.range'_succ, List.filter_cons]
  by_cases h : P.getD i 0 = a
  · rw [if_pos h, if_pos (decide_eq_true h)]; rfl
  · rw [if_neg h, if_neg (by rw [decide_eq_false h]; simp)]
theorem solidB_iff {k : Int} : solidB k = true ↔ k = 1 ∨ k = 2 := by unfold solidB; simp
theorem kids_len (P : List Int) (a : Int) : (kids P a).length ≤ P.length := by
  unfold kids kidsFrom
  rw [List.length_map]
  exact Nat.le_trans (List.length_filter_le _ _) (by simp)
theorem mem_kids {P : List Int} {a x : Int} : x ∈ kids P a ↔ ∃ j : Nat, x = j ∧ j < P.length ∧ P.getD j 0 = a := by
  unfold kids kidsFrom
  constructor
  · intro h
    obtain ⟨j, hj, rfl⟩ := List.mem_map.1 h
    obtain ⟨h1, h2⟩ := List.mem_filter.1 hj
    rw [List.mem_range'_1] at h1
    exact ⟨j, rfl, by omega, by simpa using h2⟩
  · rintro ⟨j, rfl, h1, h2⟩
    exact List.mem_map.2 ⟨j, List.mem_filter.2 ⟨List.mem_range'_1.2 ⟨by omega, by omega⟩, by simpa using h2⟩, rfl⟩

theorem solid_f (a : Int) : shape_solid.f a = some (solidB a) := by
  unfold shape_solid.f solidB
  by_cases h : a = 1
  · simp [h]
  · rw [if_neg h]; simp [h]

theorem Kids_l0 (a : Int) (P : List Int) (hP : P.length < 1099511627776) : ∀ (d i : Nat) (acc : List Int), i + d = P.length → acc.length ≤ i →
    Ev (fun k => shape_Kids.l0 k a acc P (P.length : Int) (i : Int)) (acc ++ kidsFrom P a i d) := by
  intro d
  induction d with
  | zero =>
    intro i acc hi ha
    refine Ev.ret (fun k => ?_)
    simp only [shape_Kids.l0]
    rw [if_neg (by omega)]
    simp [kidsFrom]
  | succ d ih =>
    intro i acc hi ha
    rw [kidsFrom_succ]
    by_cases hp : P.getD i 0 = a
    · rw [if_pos hp]
      refine Ev.st (Ev.val (ih (i + 1) (acc ++ [(i : Int)]) (by omega) (by simp; omega)) (by simp)) (fun k => ?_)
      simp only [shape_Kids.l0]
      rw [if_pos (by omega), if_pos (by omega), if_pos (by omega), rd_nat, if_pos hp, if_pos (by omega), w1 i (by omega)]
    · rw [if_neg hp]
      refine Ev.st (ih (i + 1) acc (by omega) (by omega)) (fun k => ?_)
      simp only [shape_Kids.l0]
      rw [if_pos (by omega), if_pos (by omega), if_pos (by omega), rd_nat, if_neg hp, w1 i (by omega)]
theorem Kids_f (K P : List Int) (a : Int) (hP : P.length < 1099511627776) : Ev (fun k => shape_Kids.f k K P a) (kids P a) := by
  have h := Kids_l0 a P hP P.length 0 [] (by omega) (by simp)
  simpa [shape_Kids.f, kids] using h

theorem rKids_l0 (a : Int) (K P : List Int) (hP : P.length < 1099511627776) : ∀ (d i : Nat) (acc : List Int), i + d = P.length → acc.length ≤ i →
    Ev (fun k => imprimaturref06_Shape_Kids.l0 k a acc (P.length : Int) (i : Int) K P) (acc ++ kidsFrom P a i d) := by
  intro d
  induction d with
  | zero =>
    intro i acc hi ha
    refine Ev.ret (fun k => ?_)
    simp only [imprimaturref06_Shape_Kids.l0]
    rw [if_neg (by omega)]
    simp [kidsFrom]
  | succ d ih =>
    intro i acc hi ha
    rw [kidsFrom_succ]
    by_cases hp : P.getD i 0 = a
    · rw [if_pos hp]
      refine Ev.st (Ev.val (ih (i + 1) (acc ++ [(i : Int)]) (by omega) (by simp; omega)) (by simp)) (fun k => ?_)
      simp only [imprimaturref06_Shape_Kids.l0]
      rw [if_pos (by omega), if_pos (by omega), if_pos (by omega), rd_nat, if_pos hp, if_pos (by omega), w1 i (by omega)]
    · rw [if_neg hp]
      refine Ev.st (ih (i + 1) acc (by omega) (by omega)) (fun k => ?_)
      simp only [imprimaturref06_Shape_Kids.l0]
      rw [if_pos (by omega), if_pos (by omega), if_pos (by omega), rd_nat, if_neg hp, w1 i (by omega)]
theorem rKids_f (K P : List Int) (a : Int) (hP : P.length < 1099511627776) : Ev (fun k => imprimaturref06_Shape_Kids.f k K P a) (kids P a) := by
  have h := rKids_l0 a K P hP P.length 0 [] (by omega) (by simp)
  simpa [imprimaturref06_Shape_Kids.f, kids] using h

/-- The first of a list of states that is solid; -1: none. -/
def firstSolid (K : List Int) : List Int → Int
  | [] => -1
  | x :: xs => if solidB (rd K x) = true then x else firstSolid K xs
def initial (K P : List Int) (a : Int) : Int := firstSolid K (kids P a)

theorem Initial_l0 (K P : List Int) (L : List Int) (hL : ∀ x ∈ L, 0 ≤ x ∧ x < (K.length : Int)) (hl : L.length < 1099511627776) : ∀ (d i : Nat), i + d = L.length →
    Ev (fun k => shape_Initial.l0 k L (L.length : Int) (i : Int) K P) (firstSolid K (L.drop i)) := by
  intro d
  induction d with
  | zero =>
    intro i hi
    refine Ev.ret (fun k => ?_)
    simp only [shape_Initial.l0]
    rw [if_neg (by omega), List.drop_of_length_le (by omega)]; rfl
  | succ d ih =>
    intro i hi
    have hd : L.drop i = L.getD i 0 :: L.drop (i + 1) := by
      rw [List.drop_eq_getElem_cons (by omega), List.getD_eq_getElem?_getD, List.getElem?_eq_getElem (by omega)]; rfl
    have hm : L.getD i 0 ∈ L := by rw [List.getD_eq_getElem?_getD, List.getElem?_eq_getElem (by omega)]; exact List.getElem_mem _
    have hb := hL _ hm
    rw [hd, firstSolid]
    by_cases hs : solidB (rd K (L.getD i 0)) = true
    · refine Ev.ret (fun k => ?_)
      simp only [shape_Initial.l0]
      rw [if_pos (by omega), if_pos (by omega), if_pos (by omega), rd_nat, if_pos hb.1, if_pos hb.2, solid_f, Option.bind_some, if_pos hs, if_pos hs]
    · rw [if_neg hs]
      refine Ev.st (ih (i + 1) (by omega)) (fun k => ?_)
      simp only [shape_Initial.l0]
      rw [if_pos (by omega), if_pos (by omega), if_pos (by omega), rd_nat, if_pos hb.1, if_pos hb.2, solid_f, Option.bind_some, if_neg hs, w1 i (by omega)]
theorem kids_in {K P : List Int} (hn : P.length = K.length) (a : Int) : ∀ x ∈ kids P a, 0 ≤ x ∧ x < (K.length : Int) := by
  intro x hx
  obtain ⟨j, rfl, h1, _⟩ := mem_kids.1 hx
  omega
theorem Initial_f (K P : List Int) (a : Int) (hn : P.length = K.length) (hP : P.length < 1099511627776) : Ev (fun k => shape_Initial.f k K P a) (initial K P a) := by
  unfold shape_Initial.f
  refine Ev.bd (Kids_f K P a hP) ?_
  have h := Initial_l0 K P (kids P a) (kids_in hn a) (Nat.lt_of_le_of_lt (kids_len P a) hP) (kids P a).length 0 (by omega)
  simpa [initial] using h

theorem rInitial_l0 (K P : List Int) (L : List Int) (hL : ∀ x ∈ L, 0 ≤ x ∧ x < (K.length : Int)) (hK : ∀ x ∈ L, 1 ≤ rd K x) (hl : L.length < 1099511627776) : ∀ (d i : Nat), i + d = L.length →
    Ev (fun k => imprimaturref06_Shape_Initial.l0 k L (L.length : Int) (i : Int) K P) (firstSolid K (L.drop i)) := by
  intro d
  induction d with
  | zero =>
    intro i hi
    refine Ev.ret (fun k => ?_)
    simp only [imprimaturref06_Shape_Initial.l0]
    rw [if_neg (by omega), List.drop_of_length_le (by omega)]; rfl
  | succ d ih =>
    intro i hi
    have hd : L.drop i = L.getD i 0 :: L.drop (i + 1) := by
      rw [List.drop_eq_getElem_cons (by omega), List.getD_eq_getElem?_getD, List.getElem?_eq_getElem (by omega)]; rfl
    have hm : L.getD i 0 ∈ L := by rw [List.getD_eq_getElem?_getD, List.getElem?_eq_getElem (by omega)]; exact List.getElem_mem _
    have hb := hL _ hm
    have h1 := hK _ hm
    rw [hd, firstSolid]
    by_cases hs : solidB (rd K (L.getD i 0)) = true
    · have hs' : rd K (L.getD i 0) ≤ 2 := by have := solidB_iff.1 hs; omega
      refine Ev.ret (fun k => ?_)
      simp only [imprimaturref06_Shape_Initial.l0]
      rw [if_pos (by omega), if_pos (by omega), if_pos (by omega), rd_nat, if_pos hb.1, if_pos hb.2, if_pos hs', if_pos hs]
    · have hs' : ¬ rd K (L.getD i 0) ≤ 2 := fun h => hs (solidB_iff.2 (by omega))
      rw [if_neg hs]
      refine Ev.st (ih (i + 1) (by omega)) (fun k => ?_)
      simp only [imprimaturref06_Shape_Initial.l0]
      rw [if_pos (by omega), if_pos (by omega), if_pos (by omega), rd_nat, if_pos hb.1, if_pos hb.2, if_neg hs', w1 i (by omega)]
theorem rInitial_f (K P : List Int) (a : Int) (hn : P.length = K.length) (hK : ∀ j : Nat, j < K.length → 1 ≤ K.getD j 0) (hP : P.length < 1099511627776) : Ev (fun k => imprimaturref06_Shape_Initial.f k K P a) (initial K P a) := by
  unfold imprimaturref06_Shape_Initial.f
  refine Ev.bd (rKids_f K P a hP) ?_
  have h := rInitial_l0 K P (kids P a) (kids_in hn a) (fun x hx => by obtain ⟨j, rfl, h1, _⟩ := mem_kids.1 hx; rw [rd_nat]; exact hK j (by omega)) (Nat.lt_of_le_of_lt (kids_len P a) hP) (kids P a).length 0 (by omega)
  simpa [initial] using h

/-- A state by itself. -/
def okS (K P : List Int) (i : Nat) : Bool :=
  decide (1 ≤ K.getD i 0) && (decide (K.getD i 0 ≤ 4) && (decide (-1 ≤ P.getD i 0) && (decide (P.getD i 0 < i) &&
    (if P.getD i 0 = -1 then solidB (K.getD i 0) else solidB (rd K (P.getD i 0)) && (solidB (K.getD i 0) || rd K (P.getD i 0) == 1)))))
/-- What is composed has a first state. -/
def compB (K P : List Int) (a : Int) : Bool := (a != -1 && (kids P a).isEmpty) || decide (0 ≤ initial K P a)
def compsB (K P : List Int) : Bool := compB K P (-1) && (List.range' 0 K.length).all (fun j => compB K P (j : Int))
def validB (K P : List Int) : Bool := decide (1 ≤ K.length ∧ K.length ≤ 24 ∧ P.length = K.length) && ((List.range' 0 K.length).all (okS K P) && compsB K P)

theorem Valid_l1 (K P : List Int) (hn : P.length = K.length) (h24 : K.length ≤ 24) : ∀ (d i : Nat), i + d = K.length →
    Ev (fun k => shape_Valid.l1 k (K.length : Int) (i : Int) K P) ((List.range' i d).all (fun j => compB K P (j : Int))) := by
  intro d
  induction d with
  | zero =>
    intro i hi
    refine Ev.ret (fun k => ?_)
    simp only [shape_Valid.l1]
    rw [if_neg (by omega)]; simp
  | succ d ih =>
    intro i hi
    rw [List.range'_succ, List.all_cons]
    refine Ev.st (f := fun k => (shape_Kids.f k K P (i : Int)).bind fun t => if (t.length : Int) > 0 then (shape_Initial.f k K P (i : Int)).bind fun t2 => (if t2 < 0 then some false else shape_Valid.l1 k (K.length : Int) (wrap64 ((i : Int) + 1)) K P) else shape_Valid.l1 k (K.length : Int) (wrap64 ((i : Int) + 1)) K P) ?_ (fun k => ?_)
    · refine Ev.bd (Kids_f K P _ (by omega)) ?_
      rw [w1 i (by omega)]
      have hc : compB K P (i : Int) = ((kids P (i : Int)).isEmpty || decide (0 ≤ initial K P (i : Int))) := by
        unfold compB; rw [show ((i : Int) != -1) = true from bne_iff_ne.mpr (by omega)]; simp
      rw [hc]
      refine Ev.iff (fun h => ?_) (fun h => ?_)
      · have he : (kids P (i : Int)).isEmpty = false := by cases hk : kids P (i : Int) <;> simp_all
        rw [he]
        refine Ev.bd (Initial_f K P _ hn (by omega)) ?_
        refine Ev.iff (fun h => ?_) (fun h => ?_)
        · rw [decide_eq_false (by omega)]; exact Ev.now _
        · rw [decide_eq_true (by omega)]; simpa using ih (i + 1) (by omega)
      · have he : (kids P (i : Int)).isEmpty = true := by cases hk : kids P (i : Int) <;> simp_all
        rw [he]; simpa using ih (i + 1) (by omega)
    · simp only [shape_Valid.l1]
      rw [if_pos (by omega), if_neg (by omega)]
theorem Valid_l1m (K P : List Int) (hn : P.length = K.length) (h24 : K.length ≤ 24) :
    Ev (fun k => shape_Valid.l1 k (K.length : Int) (-1) K P) (compsB K P) := by
  refine Ev.st (f := fun k => (shape_Initial.f k K P (-1)).bind fun t2 => (if t2 < 0 then some false else shape_Valid.l1 k (K.length : Int) (wrap64 ((-1) + 1)) K P)) ?_ (fun k => ?_)
  · refine Ev.bd (Initial_f K P _ hn (by omega)) ?_
    have hc : compB K P (-1) = decide (0 ≤ initial K P (-1)) := by unfold compB; simp
    unfold compsB; rw [hc]
    refine Ev.iff (fun h => ?_) (fun h => ?_)
    · rw [decide_eq_false (by omega)]; exact Ev.now _
    · rw [decide_eq_true (by omega), show wrap64 ((-1) + 1) = ((0 : Nat) : Int) by rw [w64 (by omega) (by omega)]; rfl]; simpa using Valid_l1 K P hn h24 K.length 0 (by omega)
  · simp only [shape_Valid.l1, if_true]
    rw [if_pos (by omega)]

theorem Valid_l0 (K P : List Int) (hn : P.length = K.length) (h24 : K.length ≤ 24) : ∀ (d i : Nat), i + d = K.length →
    Ev (fun k => shape_Valid.l0 k (K.length : Int) K (K.length : Int) (i : Int) K P) ((List.range' i d).all (okS K P) && compsB K P) := by
  intro d
  induction d with
  | zero =>
    intro i hi
    refine Ev.st (Ev.val (Valid_l1m K P hn h24) (by simp)) (fun k => ?_)
    simp only [shape_Valid.l0]
    rw [if_neg (by omega)]
  | succ d ih =>
    intro i hi
    rw [List.range'_succ, List.all_cons]
    have ih' := ih (i + 1) (by omega)
    have hw := w1 i (by omega)
    generalize hX : ((List.range' (i + 1) d).all (okS K P) && compsB K P) = X at ih'
    rw [Bool.and_assoc, hX]
    have hj : ∀ b : Bool, b = decide (P.getD i 0 ≥ (i : Int)) → 1 ≤ K.getD i 0 → K.getD i 0 ≤ 4 → -1 ≤ P.getD i 0 → Ev (fun k => shape_Valid.j2 k (K.length : Int) (K.getD i 0) (P.getD i 0) K (K.length : Int) (i : Int) b K P) (okS K P i && X) := by
      intro b hb h1 h2 h3
      by_cases h4 : P.getD i 0 < i
      · have hb' : b = false := by rw [hb, decide_eq_false (by omega)]
        subst hb'
        have ho : okS K P i = (if P.getD i 0 = -1 then solidB (K.getD i 0) else solidB (rd K (P.getD i 0)) && (solidB (K.getD i 0) || rd K (P.getD i 0) == 1)) := by
          unfold okS; rw [decide_eq_true h1, decide_eq_true h2, decide_eq_true h3, decide_eq_true h4]; simp only [Bool.true_and]
        rw [ho]
        by_cases h5 : P.getD i 0 = -1
        · rw [if_pos h5]
          by_cases h6 : solidB (K.getD i 0) = true
          · rw [h6, Bool.true_and]
            refine Ev.st ih' (fun k => ?_)
            simp only [shape_Valid.j2]
            rw [if_neg (by simp), if_pos h5, solid_f, Option.bind_some, if_pos h6, hw]
          · refine Ev.ret (fun k => ?_)
            simp only [shape_Valid.j2]
            rw [if_neg (by simp), if_pos h5, solid_f, Option.bind_some, if_neg h6]
            rw [eq_false_of_ne_true h6]; rfl
        · rw [if_neg h5]
          by_cases h7 : solidB (rd K (P.getD i 0)) = true
          · by_cases h6 : solidB (K.getD i 0) = true
            · rw [h6, h7]
              refine Ev.st (Ev.val ih' (by simp)) (fun k => ?_)
              simp only [shape_Valid.j2]
              rw [if_neg (by simp), if_neg h5, if_pos (by omega), if_pos (by omega), solid_f, Option.bind_some, if_pos h7, solid_f, Option.bind_some, if_pos h6, hw]
            · by_cases h8 : rd K (P.getD i 0) = 1
              · rw [h7, h8]
                refine Ev.st (Ev.val ih' (by simp)) (fun k => ?_)
                simp only [shape_Valid.j2]
                rw [if_neg (by simp), if_neg h5, if_pos (by omega), if_pos (by omega), solid_f, Option.bind_some, if_pos h7, solid_f, Option.bind_some, if_neg h6, if_pos h8, hw]
              · refine Ev.ret (fun k => ?_)
                simp only [shape_Valid.j2]
                rw [if_neg (by simp), if_neg h5, if_pos (by omega), if_pos (by omega), solid_f, Option.bind_some, if_pos h7, solid_f, Option.bind_some, if_neg h6, if_neg h8]
                rw [eq_false_of_ne_true h6, h7, show (rd K (P.getD i 0) == 1) = false from beq_eq_false_iff_ne.mpr h8]; rfl
          · refine Ev.ret (fun k => ?_)
            simp only [shape_Valid.j2]
            rw [if_neg (by simp), if_neg h5, if_pos (by omega), if_pos (by omega), solid_f, Option.bind_some, if_neg h7]
            rw [eq_false_of_ne_true h7]; rfl
      · have hb' : b = true := by rw [hb, decide_eq_true (by omega)]
        subst hb'
        refine Ev.ret (fun k => ?_)
        simp only [shape_Valid.j2]
        have h4' : decide (P.getD i 0 < (i : Int)) = false := decide_eq_false h4
        rw [if_pos trivial]; unfold okS; rw [h4']; simp
    have hf : (1 ≤ K.getD i 0 → K.getD i 0 ≤ 4 → -1 ≤ P.getD i 0 → False) → Ev (fun k => shape_Valid.j2 k (K.length : Int) (K.getD i 0) (P.getD i 0) K (K.length : Int) (i : Int) true K P) (okS K P i && X) := by
      intro hx
      refine Ev.ret (fun k => ?_)
      simp only [shape_Valid.j2]
      rw [if_pos trivial]
      have : okS K P i = false := by
        unfold okS
        by_cases h1 : 1 ≤ K.getD i 0
        · by_cases h2 : K.getD i 0 ≤ 4
          · by_cases h3 : -1 ≤ P.getD i 0
            · exact (hx h1 h2 h3).elim
            · rw [decide_eq_false h3]; simp
          · rw [decide_eq_false h2]; simp
        · rw [decide_eq_false h1]; simp
      rw [this]; rfl
    refine Ev.st (f := fun k => if (K.getD i 0) < 1 then (shape_Valid.j2 k (K.length : Int) (K.getD i 0) (P.getD i 0) K (K.length : Int) (i : Int) true K P) else (if (K.getD i 0) > 4 then (shape_Valid.j2 k (K.length : Int) (K.getD i 0) (P.getD i 0) K (K.length : Int) (i : Int) true K P) else (if (P.getD i 0) < (-1) then (shape_Valid.j2 k (K.length : Int) (K.getD i 0) (P.getD i 0) K (K.length : Int) (i : Int) true K P) else (shape_Valid.j2 k (K.length : Int) (K.getD i 0) (P.getD i 0) K (K.length : Int) (i : Int) (decide ((P.getD i 0) ≥ (i : Int))) K P)))) ?_ (fun k => ?_)
    · refine Ev.iff (fun h => hf (fun _ _ _ => by omega)) (fun h1 => Ev.iff (fun h => hf (fun _ _ _ => by omega)) (fun h2 => Ev.iff (fun h => hf (fun _ _ _ => by omega)) (fun h3 => hj _ rfl (by omega) (by omega) (by omega))))
    · simp only [shape_Valid.l0]
      rw [if_pos (by omega), if_pos (by omega), if_pos (by omega), if_pos (by omega)]
      simp only [rd_nat]

theorem Valid_f (K P : List Int) : Ev (fun k => shape_Valid.f k K P) (validB K P) := by
  unfold shape_Valid.f
  by_cases h1 : (K.length : Int) < 1
  · simp only [if_pos h1]
    refine Ev.ret (fun k => ?_)
    simp only [shape_Valid.j0]
    rw [if_pos trivial]; unfold validB; rw [decide_eq_false (by omega)]; rfl
  · by_cases h2 : (K.length : Int) > 24
    · simp only [if_neg h1, if_pos h2]
      refine Ev.ret (fun k => ?_)
      simp only [shape_Valid.j0]
      rw [if_pos trivial]; unfold validB; rw [decide_eq_false (by omega)]; rfl
    · simp only [if_neg h1, if_neg h2]
      by_cases h3 : P.length = K.length
      · rw [show ((P.length : Int) != (K.length : Int)) = false by simp [h3]]
        refine Ev.st (Ev.val (Valid_l0 K P h3 (by omega) K.length 0 (by omega)) ?_) (fun k => ?_)
        · unfold validB; rw [decide_eq_true (by omega)]; simp
        · simp only [shape_Valid.j0]
          rw [if_neg (by simp)]; rfl
      · rw [show ((P.length : Int) != (K.length : Int)) = true by simp; omega]
        refine Ev.ret (fun k => ?_)
        simp only [shape_Valid.j0]
        rw [if_pos trivial]; unfold validB; rw [decide_eq_false (by omega)]; rfl
end Go.Proofs.Ytnomeokicfpidaa.M
