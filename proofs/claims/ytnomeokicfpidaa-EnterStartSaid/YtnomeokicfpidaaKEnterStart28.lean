-- merged by pack.py out of: YtnomeokicfpidaaShp YtnomeokicfpidaaOk YtnomeokicfpidaaEntS YtnomeokicfpidaaEnterW YtnomeokicfpidaaEnterIn YtnomeokicfpidaaQx19 YtnomeokicfpidaaQx20 YtnomeokicfpidaaQx21 YtnomeokicfpidaaQx22 YtnomeokicfpidaaEnterBk
import Derived.Test.YtnomeokicfpidaaKEnterStart27
import Derived.Test.YtnomeokicfpidaaKEnterStart24
import Derived.Test.YtnomeokicfpidaaKEnterStart26
import Derived.Deep.RegionHeld3
import Derived.Outline
/-
  What the printed functions of the packages shape and imprimaturref06 (shapes) answer, in plain words. Conditions: none beyond each lemma's own.
-/
namespace Go.Proofs.Ytnomeokicfpidaa.M
open Go.RowKit Go.Proofs.YtnomeokicfpidaaW.PrintWords Go.Proofs.YtnomeokicfpidaaW.PrintLast Go.Proofs.YtnomeokicfpidaaW.PrintMore Go.Proofs.Ytnomeokicfpidaa.Q
set_option linter.unusedVariables false

def solidB (k : Int) : Bool := k == 1 || k == 2
def kidsFrom (P : List Int) (at_ : Int) (i d : Nat) : List Int := ((List.range' i d).filter (fun j => decide (P.getD j 0 = at_))).map (fun j : Nat => (j : Int))
def kids (P : List Int) (at_ : Int) : List Int := kidsFrom P at_ 0 P.length

theorem kidsFrom_succ (P : List Int) (a : Int) (i d : Nat) : kidsFrom P a i (d + 1) = if P.getD i 0 = a then (i : Int) :: kidsFrom P a (i + 1) d else kidsFrom P a (i + 1) d := by
  unfold kidsFrom
  rw [List.range'_succ, List.filter_cons]
  by_cases h : P.getD i 0 = a
  · rw [if_pos h, if_pos (decide_eq_true h)]; rfl
  · rw [if_neg h, if_neg (by rw [decide_eq_false h]; simp)]
theorem solidB_iff {k : Int} : solidB k = true ↔ k = 1 ∨ k = 2 := by unfold solidB; simp
theorem kids_len (P : List Int) (a : Int) : (kids P a).length ≤ P.length := by
  unfold kids kidsFrom
  rw [List.length_map]
  exact Nat.le_trans (List.length_filter_le _ _) (by simp)
theorem mem_kids {P : List Int} {a x : Int} : x ∈ kids P a ↔ ∃ j : Nat, x = j ∧ j < P.length ∧ P.getD j 0 = a := by
  unfold kids kidsFrom
  constructor
  · intro h
    obtain ⟨j, hj, rfl⟩ := List.mem_map.1 h
    obtain ⟨h1, h2⟩ := List.mem_filter.1 hj
    rw [List.mem_range'_1] at h1
    exact ⟨j, rfl, by omega, by simpa using h2⟩
  · rintro ⟨j, rfl, h1, h2⟩
    exact List.mem_map.2 ⟨j, List.mem_filter.2 ⟨List.mem_range'_1.2 ⟨by omega, by omega⟩, by simpa using h2⟩, rfl⟩

theorem solid_f (a : Int) : shape_solid.f a = some (solidB a) := by
  unfold shape_solid.f solidB
  by_cases h : a = 1
  · simp [h]
  · rw [if_neg h]; simp [h]

theorem Kids_l0 (a : Int) (P : List Int) (hP : P.length < 1099511627776) : ∀ (d i : Nat) (acc : List Int), i + d = P.length → acc.length ≤ i →
    Ev (fun k => shape_Kids.l0 k a acc P (P.length : Int) (i : Int)) (acc ++ kidsFrom P a i d) := by
  intro d
  induction d with
  | zero =>
    intro i acc hi ha
    refine Ev.ret (fun k => ?_)
    simp only [shape_Kids.l0]
    rw [if_neg (by omega)]
    simp [kidsFrom]
  | succ d ih =>
    intro i acc hi ha
    rw [kidsFrom_succ]
    by_cases hp : P.getD i 0 = a
    · rw [if_pos hp]
      refine Ev.st (Ev.val (ih (i + 1) (acc ++ [(i : Int)]) (by omega) (by simp; omega)) (by simp)) (fun k => ?_)
      simp only [shape_Kids.l0]
      rw [if_pos (by omega), if_pos (by omega), if_pos (by omega), rd_nat, if_pos hp, if_pos (by omega), w1 i (by omega)]
    · rw [if_neg hp]
      refine Ev.st (ih (i + 1) acc (by omega) (by omega)) (fun k => ?_)
      simp only [shape_Kids.l0]
      rw [if_pos (by omega), if_pos (by omega), if_pos (by omega), rd_nat, if_neg hp, w1 i (by omega)]
theorem Kids_f (K P : List Int) (a : Int) (hP : P.length < 1099511627776) : Ev (fun k => shape_Kids.f k K P a) (kids P a) := by
  have h := Kids_l0 a P hP P.length 0 [] (by omega) (by simp)
  simpa [shape_Kids.f, kids] using h

theorem rKids_l0 (a : Int) (K P : List Int) (hP : P.length < 1099511627776) : ∀ (d i : Nat) (acc : List Int), i + d = P.length → acc.length ≤ i →
    Ev (fun k => imprimaturref06_Shape_Kids.l0 k a acc (P.length : Int) (i : Int) K P) (acc ++ kidsFrom P a i d) := by
  intro d
  induction d with
  | zero =>
    intro i acc hi ha
    refine Ev.ret (fun k => ?_)
    simp only [imprimaturref06_Shape_Kids.l0]
    rw [if_neg (by omega)]
    simp [kidsFrom]
  | succ d ih =>
    intro i acc hi ha
    rw [kidsFrom_succ]
    by_cases hp : P.getD i 0 = a
    · rw [if_pos hp]
      refine Ev.st (Ev.val (ih (i + 1) (acc ++ [(i : Int)]) (by omega) (by simp; omega)) (by simp)) (fun k => ?_)
      simp only [imprimaturref06_Shape_Kids.l0]
      rw [if_pos (by omega), if_pos (by omega), if_pos (by omega), rd_nat, if_pos hp, if_pos (by omega), w1 i (by omega)]
    · rw [if_neg hp]
      refine Ev.st (ih (i + 1) acc (by omega) (by omega)) (fun k => ?_)
      simp only [imprimaturref06_Shape_Kids.l0]
      rw [if_pos (by omega), if_pos (by omega), if_pos (by omega), rd_nat, if_neg hp, w1 i (by omega)]
theorem rKids_f (K P : List Int) (a : Int) (hP : P.length < 1099511627776) : Ev (fun k => imprimaturref06_Shape_Kids.f k K P a) (kids P a) := by
  have h := rKids_l0 a K P hP P.length 0 [] (by omega) (by simp)
  simpa [imprimaturref06_Shape_Kids.f, kids] using h

/-- The first of a list of states that is solid; -1: none. -/
def firstSolid (K : List Int) : List Int → Int
  | [] => -1
  | x :: xs => if solidB (rd K x) = true then x else firstSolid K xs
def initial (K P : List Int) (a : Int) : Int := firstSolid K (kids P a)

theorem Initial_l0 (K P : List Int) (L : List Int) (hL : ∀ x ∈ L, 0 ≤ x ∧ x < (K.length : Int)) (hl : L.length < 1099511627776) : ∀ (d i : Nat), i + d = L.length →
    Ev (fun k => shape_Initial.l0 k L (L.length : Int) (i : Int) K P) (firstSolid K (L.drop i)) := by
  intro d
  induction d with
  | zero =>
    intro i hi
    refine Ev.ret (fun k => ?_)
    simp only [shape_Initial.l0]
    rw [if_neg (by omega), List.drop_of_length_le (by omega)]; rfl
  | succ d ih =>
    intro i hi
    have hd : L.drop i = L.getD i 0 :: L.drop (i + 1) := by
      rw [List.drop_eq_getElem_cons (by omega), List.getD_eq_getElem?_getD, List.getElem?_eq_getElem (by omega)]; rfl
    have hm : L.getD i 0 ∈ L := by rw [List.getD_eq_getElem?_getD, List.getElem?_eq_getElem (by omega)]; exact List.getElem_mem _
    have hb := hL _ hm
    rw [hd, firstSolid]
    by_cases hs : solidB (rd K (L.getD i 0)) = true
    · refine Ev.ret (fun k => ?_)
      simp only [shape_Initial.l0]
      rw [if_pos (by omega), if_pos (by omega), if_pos (by omega), rd_nat, if_pos hb.1, if_pos hb.2, solid_f, Option.bind_some, if_pos hs, if_pos hs]
    · rw [if_neg hs]
      refine Ev.st (ih (i + 1) (by omega)) (fun k => ?_)
      simp only [shape_Initial.l0]
      rw [if_pos (by omega), if_pos (by omega), if_pos (by omega), rd_nat, if_pos hb.1, if_pos hb.2, solid_f, Option.bind_some, if_neg hs, w1 i (by omega)]
theorem kids_in {K P : List Int} (hn : P.length = K.length) (a : Int) : ∀ x ∈ kids P a, 0 ≤ x ∧ x < (K.length : Int) := by
  intro x hx
  obtain ⟨j, rfl, h1, _⟩ := mem_kids.1 hx
  omega
theorem Initial_f (K P : List Int) (a : Int) (hn : P.length = K.length) (hP : P.length < 1099511627776) : Ev (fun k => shape_Initial.f k K P a) (initial K P a) := by
  unfold shape_Initial.f
  refine Ev.bd (Kids_f K P a hP) ?_
  have h := Initial_l0 K P (kids P a) (kids_in hn a) (Nat.lt_of_le_of_lt (kids_len P a) hP) (kids P a).length 0 (by omega)
  simpa [initial] using h

theorem rInitial_l0 (K P : List Int) (L : List Int) (hL : ∀ x ∈ L, 0 ≤ x ∧ x < (K.length : Int)) (hK : ∀ x ∈ L, 1 ≤ rd K x) (hl : L.length < 1099511627776) : ∀ (d i : Nat), i + d = L.length →
    Ev (fun k => imprimaturref06_Shape_Initial.l0 k L (L.length : Int) (i : Int) K P) (firstSolid K (L.drop i)) := by
  intro d
  induction d with
  | zero =>
    intro i hi
    refine Ev.ret (fun k => ?_)
    simp only [imprimaturref06_Shape_Initial.l0]
    rw [if_neg (by omega), List.drop_of_length_le (by omega)]; rfl
  | succ d ih =>
    intro i hi
    have hd : L.drop i = L.getD i 0 :: L.drop (i + 1) := by
      rw [List.drop_eq_getElem_cons (by omega), List.getD_eq_getElem?_getD, List.getElem?_eq_getElem (by omega)]; rfl
    have hm : L.getD i 0 ∈ L := by rw [List.getD_eq_getElem?_getD, List.getElem?_eq_getElem (by omega)]; exact List.getElem_mem _
    have hb := hL _ hm
    have h1 := hK _ hm
    rw [hd, firstSolid]
    by_cases hs : solidB (rd K (L.getD i 0)) = true
    · have hs' : rd K (L.getD i 0) ≤ 2 := by have := solidB_iff.1 hs; omega
      refine Ev.ret (fun k => ?_)
      simp only [imprimaturref06_Shape_Initial.l0]
      rw [if_pos (by omega), if_pos (by omega), if_pos (by omega), rd_nat, if_pos hb.1, if_pos hb.2, if_pos hs', if_pos hs]
    · have hs' : ¬ rd K (L.getD i 0) ≤ 2 := fun h => hs (solidB_iff.2 (by omega))
      rw [if_neg hs]
      refine Ev.st (ih (i + 1) (by omega)) (fun k => ?_)
      simp only [imprimaturref06_Shape_Initial.l0]
      rw [if_pos (by omega), if_pos (by omega), if_pos (by omega), rd_nat, if_pos hb.1, if_pos hb.2, if_neg hs', w1 i (by omega)]
theorem rInitial_f (K P : List Int) (a : Int) (hn : P.length = K.length) (hK : ∀ j : Nat, j < K.length → 1 ≤ K.getD j 0) (hP : P.length < 1099511627776) : Ev (fun k => imprimaturref06_Shape_Initial.f k K P a) (initial K P a) := by
  unfold imprimaturref06_Shape_Initial.f
  refine Ev.bd (rKids_f K P a hP) ?_
  have h := rInitial_l0 K P (kids P a) (kids_in hn a) (fun x hx => by obtain ⟨j, rfl, h1, _⟩ := mem_kids.1 hx; rw [rd_nat]; exact hK j (by omega)) (Nat.lt_of_le_of_lt (kids_len P a) hP) (kids P a).length 0 (by omega)
  simpa [initial] using h

/-- A state by itself. -/
def okS (K P : List Int) (i : Nat) : Bool :=
  decide (1 ≤ K.getD i 0) && (decide (K.getD i 0 ≤ 4) && (decide (-1 ≤ P.getD i 0) && (decide (P.getD i 0 < i) &&
    (if P.getD i 0 = -1 then solidB (K.getD i 0) else solidB (rd K (P.getD i 0)) && (solidB (K.getD i 0) || rd K (P.getD i 0) == 1)))))
/-- What is composed has a first state. -/
def compB (K P : List Int) (a : Int) : Bool := (a != -1 && (kids P a).isEmpty) || decide (0 ≤ initial K P a)
def compsB (K P : List Int) : Bool := compB K P (-1) && (List.range' 0 K.length).all (fun j => compB K P (j : Int))
def validB (K P : List Int) : Bool := decide (1 ≤ K.length ∧ K.length ≤ 24 ∧ P.length = K.length) && ((List.range' 0 K.length).all (okS K P) && compsB K P)

theorem Valid_l1 (K P : List Int) (hn : P.length = K.length) (h24 : K.length ≤ 24) : ∀ (d i : Nat), i + d = K.length →
    Ev (fun k => shape_Valid.l1 k (K.length : Int) (i : Int) K P) ((List.range' i d).all (fun j => compB K P (j : Int))) := by
  intro d
  induction d with
  | zero =>
    intro i hi
    refine Ev.ret (fun k => ?_)
    simp only [shape_Valid.l1]
    rw [if_neg (by omega)]; simp
  | succ d ih =>
    intro i hi
    rw [List.range'_succ, List.all_cons]
    refine Ev.st (f := fun k => (shape_Kids.f k K P (i : Int)).bind fun t => if (t.length : Int) > 0 then (shape_Initial.f k K P (i : Int)).bind fun t2 => (if t2 < 0 then some false else shape_Valid.l1 k (K.length : Int) (wrap64 ((i : Int) + 1)) K P) else shape_Valid.l1 k (K.length : Int) (wrap64 ((i : Int) + 1)) K P) ?_ (fun k => ?_)
    · refine Ev.bd (Kids_f K P _ (by omega)) ?_
      rw [w1 i (by omega)]
      have hc : compB K P (i : Int) = ((kids P (i : Int)).isEmpty || decide (0 ≤ initial K P (i : Int))) := by
        unfold compB; rw [show ((i : Int) != -1) = true from bne_iff_ne.mpr (by omega)]; simp
      rw [hc]
      refine Ev.iff (fun h => ?_) (fun h => ?_)
      · have he : (kids P (i : Int)).isEmpty = false := by cases hk : kids P (i : Int) <;> simp_all
        rw [he]
        refine Ev.bd (Initial_f K P _ hn (by omega)) ?_
        refine Ev.iff (fun h => ?_) (fun h => ?_)
        · rw [decide_eq_false (by omega)]; exact Ev.now _
        · rw [decide_eq_true (by omega)]; simpa using ih (i + 1) (by omega)
      · have he : (kids P (i : Int)).isEmpty = true := by cases hk : kids P (i : Int) <;> simp_all
        rw [he]; simpa using ih (i + 1) (by omega)
    · simp only [shape_Valid.l1]
      rw [if_pos (by omega), if_neg (by omega)]
theorem Valid_l1m (K P : List Int) (hn : P.length = K.length) (h24 : K.length ≤ 24) :
    Ev (fun k => shape_Valid.l1 k (K.length : Int) (-1) K P) (compsB K P) := by
  refine Ev.st (f := fun k => (shape_Initial.f k K P (-1)).bind fun t2 => (if t2 < 0 then some false else shape_Valid.l1 k (K.length : Int) (wrap64 ((-1) + 1)) K P)) ?_ (fun k => ?_)
  · refine Ev.bd (Initial_f K P _ hn (by omega)) ?_
    have hc : compB K P (-1) = decide (0 ≤ initial K P (-1)) := by unfold compB; simp
    unfold compsB; rw [hc]
    refine Ev.iff (fun h => ?_) (fun h => ?_)
    · rw [decide_eq_false (by omega)]; exact Ev.now _
    · rw [decide_eq_true (by omega), show wrap64 ((-1) + 1) = ((0 : Nat) : Int) by rw [w64 (by omega) (by omega)]; rfl]; simpa using Valid_l1 K P hn h24 K.length 0 (by omega)
  · simp only [shape_Valid.l1, if_true]
    rw [if_pos (by omega)]

theorem Valid_l0 (K P : List Int) (hn : P.length = K.length) (h24 : K.length ≤ 24) : ∀ (d i : Nat), i + d = K.length →
    Ev (fun k => shape_Valid.l0 k (K.length : Int) K (K.length : Int) (i : Int) K P) ((List.range' i d).all (okS K P) && compsB K P) := by
  intro d
  induction d with
  | zero =>
    intro i hi
    refine Ev.st (Ev.val (Valid_l1m K P hn h24) (by simp)) (fun k => ?_)
    simp only [shape_Valid.l0]
    rw [if_neg (by omega)]
  | succ d ih =>
    intro i hi
    rw [List.range'_succ, List.all_cons]
    have ih' := ih (i + 1) (by omega)
    have hw := w1 i (by omega)
    generalize hX : ((List.range' (i + 1) d).all (okS K P) && compsB K P) = X at ih'
    rw [Bool.and_assoc, hX]
    have hj : ∀ b : Bool, b = decide (P.getD i 0 ≥ (i : Int)) → 1 ≤ K.getD i 0 → K.getD i 0 ≤ 4 → -1 ≤ P.getD i 0 → Ev (fun k => shape_Valid.j2 k (K.length : Int) (K.getD i 0) (P.getD i 0) K (K.length : Int) (i : Int) b K P) (okS K P i && X) := by
      intro b hb h1 h2 h3
      by_cases h4 : P.getD i 0 < i
      · have hb' : b = false := by rw [hb, decide_eq_false (by omega)]
        subst hb'
        have ho : okS K P i = (if P.getD i 0 = -1 then solidB (K.getD i 0) else solidB (rd K (P.getD i 0)) && (solidB (K.getD i 0) || rd K (P.getD i 0) == 1)) := by
          unfold okS; rw [decide_eq_true h1, decide_eq_true h2, decide_eq_true h3, decide_eq_true h4]; simp only [Bool.true_and]
        rw [ho]
        by_cases h5 : P.getD i 0 = -1
        · rw [if_pos h5]
          by_cases h6 : solidB (K.getD i 0) = true
          · rw [h6, Bool.true_and]
            refine Ev.st ih' (fun k => ?_)
            simp only [shape_Valid.j2]
            rw [if_neg (by simp), if_pos h5, solid_f, Option.bind_some, if_pos h6, hw]
          · refine Ev.ret (fun k => ?_)
            simp only [shape_Valid.j2]
            rw [if_neg (by simp), if_pos h5, solid_f, Option.bind_some, if_neg h6]
            rw [eq_false_of_ne_true h6]; rfl
        · rw [if_neg h5]
          by_cases h7 : solidB (rd K (P.getD i 0)) = true
          · by_cases h6 : solidB (K.getD i 0) = true
            · rw [h6, h7]
              refine Ev.st (Ev.val ih' (by simp)) (fun k => ?_)
              simp only [shape_Valid.j2]
              rw [if_neg (by simp), if_neg h5, if_pos (by omega), if_pos (by omega), solid_f, Option.bind_some, if_pos h7, solid_f, Option.bind_some, if_pos h6, hw]
            · by_cases h8 : rd K (P.getD i 0) = 1
              · rw [h7, h8]
                refine Ev.st (Ev.val ih' (by simp)) (fun k => ?_)
                simp only [shape_Valid.j2]
                rw [if_neg (by simp), if_neg h5, if_pos (by omega), if_pos (by omega), solid_f, Option.bind_some, if_pos h7, solid_f, Option.bind_some, if_neg h6, if_pos h8, hw]
              · refine Ev.ret (fun k => ?_)
                simp only [shape_Valid.j2]
                rw [if_neg (by simp), if_neg h5, if_pos (by omega), if_pos (by omega), solid_f, Option.bind_some, if_pos h7, solid_f, Option.bind_some, if_neg h6, if_neg h8]
                rw [eq_false_of_ne_true h6, h7, show (rd K (P.getD i 0) == 1) = false from beq_eq_false_iff_ne.mpr h8]; rfl
          · refine Ev.ret (fun k => ?_)
            simp only [shape_Valid.j2]
            rw [if_neg (by simp), if_neg h5, if_pos (by omega), if_pos (by omega), solid_f, Option.bind_some, if_neg h7]
            rw [eq_false_of_ne_true h7]; rfl
      · have hb' : b = true := by rw [hb, decide_eq_true (by omega)]
        subst hb'
        refine Ev.ret (fun k => ?_)
        simp only [shape_Valid.j2]
        have h4' : decide (P.getD i 0 < (i : Int)) = false := decide_eq_false h4
        rw [if_pos trivial]; unfold okS; rw [h4']; simp
    have hf : (1 ≤ K.getD i 0 → K.getD i 0 ≤ 4 → -1 ≤ P.getD i 0 → False) → Ev (fun k => shape_Valid.j2 k (K.length : Int) (K.getD i 0) (P.getD i 0) K (K.length : Int) (i : Int) true K P) (okS K P i && X) := by
      intro hx
      refine Ev.ret (fun k => ?_)
      simp only [shape_Valid.j2]
      rw [if_pos trivial]
      have : okS K P i = false := by
        unfold okS
        by_cases h1 : 1 ≤ K.getD i 0
        · by_cases h2 : K.getD i 0 ≤ 4
          · by_cases h3 : -1 ≤ P.getD i 0
            · exact (hx h1 h2 h3).elim
            · rw [decide_eq_false h3]; simp
          · rw [decide_eq_false h2]; simp
        · rw [decide_eq_false h1]; simp
      rw [this]; rfl
    refine Ev.st (f := fun k => if (K.getD i 0) < 1 then (shape_Valid.j2 k (K.length : Int) (K.getD i 0) (P.getD i 0) K (K.length : Int) (i : Int) true K P) else (if (K.getD i 0) > 4 then (shape_Valid.j2 k (K.length : Int) (K.getD i 0) (P.getD i 0) K (K.length : Int) (i : Int) true K P) else (if (P.getD i 0) < (-1) then (shape_Valid.j2 k (K.length : Int) (K.getD i 0) (P.getD i 0) K (K.length : Int) (i : Int) true K P) else (shape_Valid.j2 k (K.length : Int) (K.getD i 0) (P.getD i 0) K (K.length : Int) (i : Int) (decide ((P.getD i 0) ≥ (i : Int))) K P)))) ?_ (fun k => ?_)
    · refine Ev.iff (fun h => hf (fun _ _ _ => by omega)) (fun h1 => Ev.iff (fun h => hf (fun _ _ _ => by omega)) (fun h2 => Ev.iff (fun h => hf (fun _ _ _ => by omega)) (fun h3 => hj _ rfl (by omega) (by omega) (by omega))))
    · simp only [shape_Valid.l0]
      rw [if_pos (by omega), if_pos (by omega), if_pos (by omega), if_pos (by omega)]
      simp only [rd_nat]

theorem Valid_f (K P : List Int) : Ev (fun k => shape_Valid.f k K P) (validB K P) := by
  unfold shape_Valid.f
  by_cases h1 : (K.length : Int) < 1
  · simp only [if_pos h1]
    refine Ev.ret (fun k => ?_)
    simp only [shape_Valid.j0]
    rw [if_pos trivial]; unfold validB; rw [decide_eq_false (by omega)]; rfl
  · by_cases h2 : (K.length : Int) > 24
    · simp only [if_neg h1, if_pos h2]
      refine Ev.ret (fun k => ?_)
      simp only [shape_Valid.j0]
      rw [if_pos trivial]; unfold validB; rw [decide_eq_false (by omega)]; rfl
    · simp only [if_neg h1, if_neg h2]
      by_cases h3 : P.length = K.length
      · rw [show ((P.length : Int) != (K.length : Int)) = false by simp [h3]]
        refine Ev.st (Ev.val (Valid_l0 K P h3 (by omega) K.length 0 (by omega)) ?_) (fun k => ?_)
        · unfold validB; rw [decide_eq_true (by omega)]; simp
        · simp only [shape_Valid.j0]
          rw [if_neg (by simp)]; rfl
      · rw [show ((P.length : Int) != (K.length : Int)) = true by simp; omega]
        refine Ev.ret (fun k => ?_)
        simp only [shape_Valid.j0]
        rw [if_pos trivial]; unfold validB; rw [decide_eq_false (by omega)]; rfl
theorem okS_iff {K P : List Int} {i : Nat} : okS K P i = true ↔ 1 ≤ K.getD i 0 ∧ K.getD i 0 ≤ 4 ∧ -1 ≤ P.getD i 0 ∧ P.getD i 0 < i ∧
    (if P.getD i 0 = -1 then solidB (K.getD i 0) else solidB (rd K (P.getD i 0)) && (solidB (K.getD i 0) || rd K (P.getD i 0) == 1)) = true := by
  unfold okS
  simp only [Bool.and_eq_true, decide_eq_true_eq]
end Go.Proofs.Ytnomeokicfpidaa.M
/-
  A shape that is valid, in plain words. Conditions: none beyond each lemma's own.
-/
namespace Go.Proofs.Ytnomeokicfpidaa.M
open Go.RowKit Go.Proofs.YtnomeokicfpidaaW.PrintWords Go.Proofs.YtnomeokicfpidaaW.PrintLast Go.Proofs.YtnomeokicfpidaaW.PrintMore
set_option linter.unusedVariables false

def Ok (K P : List Int) : Prop := P.length = K.length ∧ 1 ≤ K.length ∧ (∀ i, i < K.length → okS K P i = true) ∧ (∀ a, kids P a ≠ [] → 0 ≤ initial K P a) ∧ K.length ≤ 24
theorem initial_nil {K P : List Int} {a : Int} (h : kids P a = []) : initial K P a = -1 := by unfold initial; rw [h]; rfl
theorem Ok.of_valid {K P : List Int} (h : validB K P = true) : Ok K P := by
  unfold validB compsB at h
  rw [Bool.and_eq_true, decide_eq_true_eq, Bool.and_eq_true, Bool.and_eq_true, List.all_eq_true, List.all_eq_true] at h
  obtain ⟨⟨h1, h2, h3⟩, h4, h5, h6⟩ := h
  have ok : ∀ i, i < K.length → okS K P i = true := fun i hi => h4 i (List.mem_range'_1.2 ⟨by omega, by omega⟩)
  refine ⟨h3, h1, ok, fun a ha => ?_, h2⟩
  obtain ⟨x, hx⟩ := List.exists_mem_of_ne_nil _ ha
  obtain ⟨j, rfl, j1, j2⟩ := mem_kids.1 hx
  obtain ⟨_, _, b1, b2, _⟩ := okS_iff.1 (ok j (by omega))
  rw [j2] at b1 b2
  by_cases e : a = -1
  · subst e
    unfold compB at h5
    simpa using h5
  · have := h6 a.toNat (List.mem_range'_1.2 ⟨by omega, by omega⟩)
    rw [show ((a.toNat : Nat) : Int) = a by omega] at this
    unfold compB at this
    rw [show (a != -1) = true from bne_iff_ne.mpr e, Bool.true_and, Bool.or_eq_true, decide_eq_true_eq] at this
    rcases this with h | h
    · exact absurd (List.isEmpty_iff.1 h) ha
    · exact h
theorem firstSolid_cases (K : List Int) : ∀ L : List Int, firstSolid K L = -1 ∨ (firstSolid K L ∈ L ∧ solidB (rd K (firstSolid K L)) = true)
  | [] => .inl rfl
  | x :: L => by
    rw [firstSolid]
    by_cases h : solidB (rd K x) = true
    · rw [if_pos h]; exact .inr ⟨List.mem_cons_self .., h⟩
    · rw [if_neg h]
      rcases firstSolid_cases K L with h | ⟨h, h'⟩
      · exact .inl h
      · exact .inr ⟨List.mem_cons_of_mem _ h, h'⟩
theorem initial_cases (K P : List Int) (a : Int) : initial K P a = -1 ∨ (initial K P a ∈ kids P a ∧ solidB (rd K (initial K P a)) = true) := firstSolid_cases K (kids P a)
section
variable {K P : List Int} (h : Ok K P)
include h
/-- A state in another one: it stands behind it, the other one is solid; out of a region it is solid itself. -/
theorem Ok.kid {a x : Int} (hx : x ∈ kids P a) : 0 ≤ x ∧ x < K.length ∧ a < x ∧ -1 ≤ a ∧ (a = -1 → solidB (rd K x) = true) ∧ (a ≠ -1 → solidB (rd K a) = true ∧ (solidB (rd K x) = true ∨ rd K a = 1)) := by
  obtain ⟨j, rfl, j1, j2⟩ := mem_kids.1 hx
  have hn := h.1
  obtain ⟨_, _, b1, b2, b3⟩ := okS_iff.1 (h.2.2.1 j (by omega))
  rw [j2] at b1 b2 b3
  rw [rd_nat]
  refine ⟨by omega, by omega, b2, b1, fun e => ?_, fun e => ?_⟩
  · rw [if_pos e] at b3; exact b3
  · rw [if_neg e, Bool.and_eq_true, Bool.or_eq_true, beq_iff_eq] at b3; exact b3
end
end Go.Proofs.Ytnomeokicfpidaa.M
/-
  What is entered, in plain words: lists of states. Conditions: none (plain functions).
-/
namespace Go.Proofs.Ytnomeokicfpidaa.M
open Go.RowKit Go.Proofs.YtnomeokicfpidaaW.PrintWords Go.Proofs.YtnomeokicfpidaaW.PrintLast Go.Proofs.YtnomeokicfpidaaW.PrintMore
set_option linter.unusedVariables false

/-- What a solid state enters: itself, and what is in it at first (f: more than the states behind it). -/
def inS (K P : List Int) : Nat → Int → List Int
  | 0, _ => []
  | f + 1, a => if rd K a = 2 then a :: (kids P a).flatMap (inS K P f) else a :: (if 0 ≤ initial K P a then inS K P f (initial K P a) else [])
end Go.Proofs.Ytnomeokicfpidaa.M
/-
  The walk that enters states (package enter: in, back, path), by hand: what it puts behind the row that it has. Conditions: a shape that is valid.
-/
namespace Go.Proofs.Ytnomeokicfpidaa.EW
open Go.RowKit Go.Proofs.YtnomeokicfpidaaW.PrintWords Go.Proofs.YtnomeokicfpidaaW.PrintLast Go.Proofs.YtnomeokicfpidaaW.PrintMore Go.Proofs.Ytnomeokicfpidaa.Q Go.Proofs.Ytnomeokicfpidaa.M
attribute [local go_sem] max2_int min2_int max_two min_two max_three min_three max_four min_four
set_option linter.unusedVariables false
set_option linter.unusedSimpArgs false

theorem infoI : (Try.prog.info? 3).map (fun i => (i.zero, i.size, i.bytes)) = some (some (.int .i64 0), 1, 8) := by kernel_rfl

/-- The walk's block, and the row that it has. -/
structure WW (w0 w : World) (g : Nat) (sK sP sQ v : Value) (out : List Int) : Prop where
  below : Below w0.heap.size w0 w
  ge : w0.heap.size ≤ g
  blk : w.heap[g]? = some (.cells #[sK, sP, sQ, v] 70 (0, 0))
  own : Kd.R (Kd.int .i64) 3 w w0.heap.size (fun _ => True) v out
/-- Nothing else has turned. -/
structure Fr (w w' : World) (g : Nat) (v v' : Value) : Prop where
  size : w.heap.size ≤ w'.heap.size
  block : ∀ k, k < w.heap.size → k ≠ g → some k ≠ v.ownBlock → w'.heap[k]? = w.heap[k]?
  row : v'.ownBlock = v.ownBlock ∨ ∃ b, v'.ownBlock = some b ∧ w.heap.size ≤ b
theorem Fr.refl (w : World) (g : Nat) (v : Value) : Fr w w g v v := ⟨Nat.le_refl _, fun _ _ _ _ => rfl, .inl rfl⟩
theorem Fr.trans {w w1 w2 : World} {g : Nat} {v v1 v2 : Value} (h : Fr w w1 g v v1) (k : Fr w1 w2 g v1 v2) : Fr w w2 g v v2 := by
  refine ⟨Nat.le_trans h.size k.size, fun j hj hg hv => ?_, ?_⟩
  · refine (k.block j (Nat.lt_of_lt_of_le hj h.size) hg (fun e => ?_)).trans (h.block j hj hg hv)
    rcases h.row with r | ⟨b, r, hb⟩
    · exact hv (by rw [e, r])
    · rw [r] at e; injection e with e; omega
  · rcases k.row with r | ⟨b, r, hb⟩
    · rcases h.row with r' | ⟨b, r', hb⟩
      · exact .inl (r.trans r')
      · exact .inr ⟨b, r.trans r', hb⟩
    · exact .inr ⟨b, r, Nat.le_trans h.size hb⟩
theorem Fr.of_below {w w1 : World} (h : Below w.heap.size w w1) (g : Nat) (v : Value) : Fr w w1 g v v := ⟨h.size, fun k hk _ _ => h.block k hk, .inl rfl⟩
/-- What a call of the walk leaves. -/
def Put (w0 w : World) (g : Nat) (sK sP sQ v : Value) (r : List Int) (e : Ending) (w' : World) : Prop := e = .returned (.tuple #[]) ∧ ∃ v', WW w0 w' g sK sP sQ v' r ∧ Fr w w' g v v'

theorem WW.lt {w0 w : World} {g : Nat} {sK sP sQ v : Value} {out : List Int} (h : WW w0 w g sK sP sQ v out) : g < w.heap.size := blk_lt h.blk
/-- A state put behind: append, and store. -/
theorem WW.push {w0 w w1 : World} {g : Nat} {sK sP sQ v v1 : Value} {out r : List Int} (h : WW w0 w g sK sP sQ v out) (ho : Kd.R (Kd.int .i64) 3 w1 w0.heap.size (fun _ => True) v1 r)
    (hb : Below w0.heap.size w0 w1) (hg : w.grownBy w1 v.ownBlock) (hat : v1.ownBlock = v.ownBlock ∨ ∃ b, v1.ownBlock = some b ∧ w.heap.size ≤ b) :
    w1.heap[g]? = some (.cells #[sK, sP, sQ, v] 70 (0, 0)) ∧ WW w0 (w1.setCell ⟨g, 3, none⟩ v1) g sK sP sQ v1 r ∧ Fr w (w1.setCell ⟨g, 3, none⟩ v1) g v v1 := by
  have hne : some g ≠ v.ownBlock := Kd.R_ne h.own h.blk (by decide)
  have hb1 := blk_grown h.blk hg hne
  have hne1 : some g ≠ v1.ownBlock := Kd.R_ne ho hb1 (by decide)
  refine ⟨hb1, ⟨below_set hb h.ge, h.ge, by simpa using blk_set hb1 3 v1, Kd.R_far (Kd.R_mono (ok' := fun k => k ≠ g) (Kd.R_types ho hb1 (by decide)) (fun k hk => hk.2)) (fun k hk => hk) v1 |> fun z => Kd.R_mono z (fun _ _ => trivial)⟩, ⟨?_, fun k hk hkg hkv => ?_, hat⟩⟩
  · simpa using hg.size
  · rw [Below.heap_setCell w1 ⟨g, 3, none⟩ v1 k hkg]
    exact hg.block k hk hkv
theorem WW.step {w0 w w1 : World} {g : Nat} {sK sP sQ v : Value} {out : List Int} (h : WW w0 w g sK sP sQ v out) (hb : Below w.heap.size w w1) : WW w0 w1 g sK sP sQ v out :=
  ⟨below_then h.below h.below.size hb, h.ge, (hb.block g h.lt).trans h.blk, Kd.R_below h.own hb⟩
/-- A row that was made while the walk stood still stays as it is. -/
theorem row_after {w w' : World} {g B : Nat} {v v' u : Value} {L : List Int} (h : Kd.R (Kd.int .i64) 3 w B (fun _ => True) u L) (hB : g < B) (hv : ∀ k, v.ownBlock = some k → k < B) (hF : Fr w w' g v v') :
    Kd.R (Kd.int .i64) 3 w' B (fun _ => True) u L :=
  Kd.R_mono (Kd.R_step (Kd.R_bound h) (fun k hk hlt => hF.block k hlt (by have := hk.2.1; omega) (fun e => by have := hv k e.symm; have := hk.2.1; omega))) (fun _ _ => trivial)
theorem flat_take {F : Int → List Int} {L : List Int} {i : Nat} (hi : i < L.length) : (L.take (i + 1)).flatMap F = (L.take i).flatMap F ++ F (rd L (i : Int)) := by
  rw [List.take_succ_eq_append_getElem hi, List.flatMap_append, List.flatMap_singleton, rd_nat, List.getD_eq_getElem?_getD, List.getElem?_eq_getElem hi]; rfl
theorem flat_le {F : Int → List Int} {L : List Int} (i : Nat) : ((L.take i).flatMap F).length ≤ (L.flatMap F).length := by
  have : (L.flatMap F).length = ((L.take i).flatMap F).length + ((L.drop i).flatMap F).length := by rw [← List.length_append, ← List.flatMap_append, List.take_append_drop]
  omega
end Go.Proofs.Ytnomeokicfpidaa.EW
/-
  The walk that enters states, by hand: a solid state. Conditions: a shape that is valid.
-/
namespace Go.Proofs.Ytnomeokicfpidaa.EW
open Go.RowKit Go.Proofs.YtnomeokicfpidaaW.PrintWords Go.Proofs.YtnomeokicfpidaaW.PrintLast Go.Proofs.YtnomeokicfpidaaW.PrintMore Go.Proofs.Ytnomeokicfpidaa.Q Go.Proofs.Ytnomeokicfpidaa.M
attribute [local go_sem] max2_int min2_int max_two min_two max_three min_three max_four min_four
set_option linter.unusedVariables false
set_option linter.unusedSimpArgs false

-- uses: shape_Kids.calls shape_Initial.calls
set_option maxHeartbeats 8000000 in
set_option maxRecDepth 100000 in
theorem in_leaf {w0 : World} {AK AP AQ : Option Addr} {cK cP cQ : Nat} {lK lP lQ : List Int} {g : Nat}
    (hK : Kd.C (Kd.int .i64) w0 AK lK.length lK) (hcK : lK.length ≤ cK) (hP : Kd.C (Kd.int .i64) w0 AP lP.length lP) (hcP : lP.length ≤ cP) (hn : lP.length = lK.length) (h24 : lK.length ≤ 24)
    (a : Int) (h0 : 0 ≤ a) (h1 : a < lK.length) (hs : rd lK a = 1) (w : World) (v : Value) (out : List Int)
    (hW : WW w0 w g (.slice AK lK.length cK) (.slice AP lP.length cP) (.slice AQ lQ.length cQ) v out) (hl : (out ++ [a]).length < 17592186044416) (hi : initial lK lP a = -1) :
    Calls Try.prog 52 #[.pointer (some ⟨g, 0, none⟩), .int .i64 a] w (Put w0 w g (.slice AK lK.length cK) (.slice AP lP.length cP) (.slice AQ lQ.length cQ) v (out ++ [a])) := by
  obtain ⟨k, hk⟩ := (Initial_f lK lP a hn (by omega)).rounds
  have hu24 := Try.underlying24
  have hu70 := Try.underlying70
  have hc0 : w.cell? ⟨g, 0, none⟩ = some (.slice AK lK.length cK) := (blk_cell hW.blk 0).trans rfl
  have hc1 : w.cell? ⟨g, 1, none⟩ = some (.slice AP lP.length cP) := (blk_cell hW.blk 1).trans rfl
  have hc3 : w.cell? ⟨g, 3, none⟩ = some v := (blk_cell hW.blk 3).trans rfl
  obtain ⟨ad, e, hx⟩ := Kd.at_int (Kd.C_below hK hW.below) a h0 (by omega)
  subst e
  have p0 := eq_true h0
  have p1 := eq_true h1
  have t1 : (rd lK a == 3) = false := by rw [hs]; rfl
  have t2 : (rd lK a == 4) = false := by rw [hs]; rfl
  have t3 : (rd lK a == 2) = false := by rw [hs]; rfl
  clear h0 h1 hs
  have HW := Aside0.mk hW
  clear hW
  have HK := Aside0.mk hk
  clear hk
  have HN := Aside0.mk hn
  clear hn
  obtain ⟨y, hy⟩ : ∃ y : List Int, y = out ++ [a] := ⟨_, rfl⟩
  have HI := Aside0.mk hi
  clear hi
  rw [List.length_append, List.length_singleton] at hl
  have HL := Aside0.mk hl
  clear hl
  rw [← hy]
  have HY := Aside0.mk hy
  clear hy
  go_enter Try.func52, Try.ntmps52
  go_wp2_with (first | ((with_reducible refine gate_builtin (b := .append) (xs := #[.tmp 68, .tmp 70]) rfl ?_); at_builtin; refine Kd.R_append (Kd.int .i64) (w0 := w0) w0.heap.size rfl (.tmp 68) (.tmp 70) 22 3 (.int .i64 0) 8 rfl Try.underlying22 infoI rfl (by decide) (by omega) v out a [.int .i64 a] (fun _ => True) (fun _ => False) rfl rfl ?aP (fun _ hk => hk.elim) ?aF ?aO ?aB ?aS ?aL ?_; (case aP => exact rfl); (case aB => exact HW.out.below); (case aF => exact (fun _ _ => trivial)); (case aO => exact HW.out.own); (case aS => exact HW.out.below.size); (case aL => have := HL.out; omega); intro v1 w1 ho hb hg hat; rw [← HY.out] at ho; obtain ⟨Av, cv, ev⟩ := Kd.R_slice ho; subst ev; obtain ⟨hb1, hW2, hF⟩ := HW.out.push ho hb hg hat; clear ho hb hg hat; have hc3' : w1.cell? ⟨g, 3, none⟩ = some v := (blk_cell hb1 3).trans rfl; have hf3' := blk_frozen hb1 3; clear hb1; have hd0 : (w1.setCell ⟨g, 3, none⟩ (.slice Av y.length cv)).cell? ⟨g, 0, none⟩ = some (.slice (some ad) lK.length cK) := (blk_cell hW2.blk 0).trans rfl; have hd1 : (w1.setCell ⟨g, 3, none⟩ (.slice Av y.length cv)).cell? ⟨g, 1, none⟩ = some (.slice AP lP.length cP) := (blk_cell hW2.blk 1).trans rfl; have HW2 := Aside0.mk hW2; clear hW2; have HF := Aside0.mk hF; clear hF) | (go_at_call 30; (with_reducible refine (shape_Initial.calls k _ _ lK _ _ lP a _ _ ?s1 ?s2 ?s3 ?s4 HK.out).mono ?_); (case s1 => exact Kd.C_below hK HW2.out.below); (case s2 => exact hcK); (case s3 => exact Kd.C_below hP HW2.out.below); (case s4 => exact hcP); rintro e w3 ⟨rfl, hb3⟩; rw [HI.out]; have HB3 := Aside0.mk hb3; clear hb3))
  go_end0
  exact ⟨rfl, _, HW2.out.step HB3.out, HF.out.trans (Fr.of_below HB3.out g _)⟩
set_option maxHeartbeats 8000000 in
set_option maxRecDepth 100000 in
theorem in_plain {w0 : World} {AK AP AQ : Option Addr} {cK cP cQ : Nat} {lK lP lQ : List Int} {g : Nat}
    (hK : Kd.C (Kd.int .i64) w0 AK lK.length lK) (hcK : lK.length ≤ cK) (hP : Kd.C (Kd.int .i64) w0 AP lP.length lP) (hcP : lP.length ≤ cP) (hn : lP.length = lK.length) (h24 : lK.length ≤ 24)
    (a : Int) (h0 : 0 ≤ a) (h1 : a < lK.length) (hs : rd lK a = 1) (w : World) (v : Value) (out : List Int)
    (hW : WW w0 w g (.slice AK lK.length cK) (.slice AP lP.length cP) (.slice AQ lQ.length cQ) v out) (x : Int) (hx0 : 0 ≤ x) (r : List Int) (hl : (out ++ [a]).length < 17592186044416) (hi : initial lK lP a = x)
    (IH : ∀ (w : World) (v : Value), WW w0 w g (.slice AK lK.length cK) (.slice AP lP.length cP) (.slice AQ lQ.length cQ) v (out ++ [a]) → Calls Try.prog 52 #[.pointer (some ⟨g, 0, none⟩), .int .i64 x] w (Put w0 w g (.slice AK lK.length cK) (.slice AP lP.length cP) (.slice AQ lQ.length cQ) v r)) :
    Calls Try.prog 52 #[.pointer (some ⟨g, 0, none⟩), .int .i64 a] w (Put w0 w g (.slice AK lK.length cK) (.slice AP lP.length cP) (.slice AQ lQ.length cQ) v (r)) := by
  obtain ⟨k, hk⟩ := (Initial_f lK lP a hn (by omega)).rounds
  have hu24 := Try.underlying24
  have hu70 := Try.underlying70
  have hc0 : w.cell? ⟨g, 0, none⟩ = some (.slice AK lK.length cK) := (blk_cell hW.blk 0).trans rfl
  have hc1 : w.cell? ⟨g, 1, none⟩ = some (.slice AP lP.length cP) := (blk_cell hW.blk 1).trans rfl
  have hc3 : w.cell? ⟨g, 3, none⟩ = some v := (blk_cell hW.blk 3).trans rfl
  obtain ⟨ad, e, hx⟩ := Kd.at_int (Kd.C_below hK hW.below) a h0 (by omega)
  subst e
  have p0 := eq_true h0
  have p1 := eq_true h1
  have t1 : (rd lK a == 3) = false := by rw [hs]; rfl
  have t2 : (rd lK a == 4) = false := by rw [hs]; rfl
  have t3 : (rd lK a == 2) = false := by rw [hs]; rfl
  clear h0 h1 hs
  have HW := Aside0.mk hW
  clear hW
  have HK := Aside0.mk hk
  clear hk
  have HN := Aside0.mk hn
  clear hn
  obtain ⟨y, hy⟩ : ∃ y : List Int, y = out ++ [a] := ⟨_, rfl⟩
  have HI := Aside0.mk hi
  clear hi
  rw [List.length_append, List.length_singleton] at hl
  have HL := Aside0.mk hl
  clear hl
  rw [← hy] at IH
  have HY := Aside0.mk hy
  clear hy
  have tx : decide (0 ≤ x) = true := decide_eq_true hx0
  clear hx0
  have HH := Aside0.mk IH
  clear IH
  go_enter Try.func52, Try.ntmps52
  go_wp2_with (first | ((with_reducible refine gate_builtin (b := .append) (xs := #[.tmp 68, .tmp 70]) rfl ?_); at_builtin; refine Kd.R_append (Kd.int .i64) (w0 := w0) w0.heap.size rfl (.tmp 68) (.tmp 70) 22 3 (.int .i64 0) 8 rfl Try.underlying22 infoI rfl (by decide) (by omega) v out a [.int .i64 a] (fun _ => True) (fun _ => False) rfl rfl ?aP (fun _ hk => hk.elim) ?aF ?aO ?aB ?aS ?aL ?_; (case aP => exact rfl); (case aB => exact HW.out.below); (case aF => exact (fun _ _ => trivial)); (case aO => exact HW.out.own); (case aS => exact HW.out.below.size); (case aL => have := HL.out; omega); intro v1 w1 ho hb hg hat; rw [← HY.out] at ho; obtain ⟨Av, cv, ev⟩ := Kd.R_slice ho; subst ev; obtain ⟨hb1, hW2, hF⟩ := HW.out.push ho hb hg hat; clear ho hb hg hat; have hc3' : w1.cell? ⟨g, 3, none⟩ = some v := (blk_cell hb1 3).trans rfl; have hf3' := blk_frozen hb1 3; clear hb1; have hd0 : (w1.setCell ⟨g, 3, none⟩ (.slice Av y.length cv)).cell? ⟨g, 0, none⟩ = some (.slice (some ad) lK.length cK) := (blk_cell hW2.blk 0).trans rfl; have hd1 : (w1.setCell ⟨g, 3, none⟩ (.slice Av y.length cv)).cell? ⟨g, 1, none⟩ = some (.slice AP lP.length cP) := (blk_cell hW2.blk 1).trans rfl; have HW2 := Aside0.mk hW2; clear hW2; have HF := Aside0.mk hF; clear hF) | (go_at_call 30; (with_reducible refine (shape_Initial.calls k _ _ lK _ _ lP a _ _ ?s1 ?s2 ?s3 ?s4 HK.out).mono ?_); (case s1 => exact Kd.C_below hK HW2.out.below); (case s2 => exact hcK); (case s3 => exact Kd.C_below hP HW2.out.below); (case s4 => exact hcP); rintro e w3 ⟨rfl, hb3⟩; rw [HI.out]; have HB3 := Aside0.mk hb3; clear hb3) | (go_at_call 52; (with_reducible refine (HH.out w3 _ (HW2.out.step HB3.out)).mono ?_); rintro e w4 ⟨rfl, v', hW4, hF4⟩))
  go_end0
  exact ⟨rfl, v', hW4, (HF.out.trans (Fr.of_below HB3.out g _)).trans hF4⟩
set_option maxHeartbeats 8000000 in
set_option maxRecDepth 100000 in
theorem in_all {w0 : World} {AK AP AQ : Option Addr} {cK cP cQ : Nat} {lK lP lQ : List Int} {g : Nat}
    (hK : Kd.C (Kd.int .i64) w0 AK lK.length lK) (hcK : lK.length ≤ cK) (hP : Kd.C (Kd.int .i64) w0 AP lP.length lP) (hcP : lP.length ≤ cP) (hn : lP.length = lK.length) (h24 : lK.length ≤ 24)
    (a : Int) (h0 : 0 ≤ a) (h1 : a < lK.length) (hs : rd lK a = 2) (w : World) (v : Value) (out : List Int)
    (hW : WW w0 w g (.slice AK lK.length cK) (.slice AP lP.length cP) (.slice AQ lQ.length cQ) v out) (F : Int → List Int) (hl : (out ++ [a] ++ (kids lP a).flatMap F).length < 17592186044416)
    (IH : ∀ x ∈ kids lP a, ∀ (w : World) (v : Value) (out : List Int), WW w0 w g (.slice AK lK.length cK) (.slice AP lP.length cP) (.slice AQ lQ.length cQ) v out → (out ++ F x).length < 17592186044416 → Calls Try.prog 52 #[.pointer (some ⟨g, 0, none⟩), .int .i64 x] w (Put w0 w g (.slice AK lK.length cK) (.slice AP lP.length cP) (.slice AQ lQ.length cQ) v (out ++ F x))) :
    Calls Try.prog 52 #[.pointer (some ⟨g, 0, none⟩), .int .i64 a] w (Put w0 w g (.slice AK lK.length cK) (.slice AP lP.length cP) (.slice AQ lQ.length cQ) v (out ++ [a] ++ (kids lP a).flatMap F)) := by
  obtain ⟨k, hk⟩ := (Kids_f lK lP a (by omega)).rounds
  have hu24 := Try.underlying24
  have hu70 := Try.underlying70
  have hc0 : w.cell? ⟨g, 0, none⟩ = some (.slice AK lK.length cK) := (blk_cell hW.blk 0).trans rfl
  have hc1 : w.cell? ⟨g, 1, none⟩ = some (.slice AP lP.length cP) := (blk_cell hW.blk 1).trans rfl
  have hc3 : w.cell? ⟨g, 3, none⟩ = some v := (blk_cell hW.blk 3).trans rfl
  obtain ⟨ad, e, hx⟩ := Kd.at_int (Kd.C_below hK hW.below) a h0 (by omega)
  subst e
  have p0 := eq_true h0
  have p1 := eq_true h1
  have t1 : (rd lK a == 3) = false := by rw [hs]; rfl
  have t2 : (rd lK a == 4) = false := by rw [hs]; rfl
  have t3 : (rd lK a == 2) = true := by rw [hs]; rfl
  clear h0 h1 hs
  have HW := Aside0.mk hW
  clear hW
  have HK := Aside0.mk hk
  clear hk
  have HN := Aside0.mk hn
  clear hn
  obtain ⟨y, hy⟩ : ∃ y : List Int, y = out ++ [a] := ⟨_, rfl⟩
  have hlen : y.length = out.length + 1 := by rw [hy, List.length_append, List.length_singleton]
  rw [← hy] at hl ⊢
  have hly : y.length + ((kids lP a).flatMap F).length < 17592186044416 := by rw [← List.length_append]; exact hl
  have HL := Aside0.mk (show out.length + 1 < 17592186044416 by omega)
  have HLY := Aside0.mk hly
  clear hl hly hlen
  have HY := Aside0.mk hy
  clear hy
  have HH := Aside0.mk IH
  clear IH
  have hkl := kids_len lP a
  obtain ⟨L, hL⟩ : ∃ L, L = kids lP a := ⟨_, rfl⟩
  rw [← hL] at hkl
  have HLL := Aside0.mk hL
  have hl24 : L.length ≤ 24 := by have := HN.out; omega
  clear hL hkl
  go_enter Try.func52, Try.ntmps52
  go_wp2_with (first | ((with_reducible refine gate_builtin (b := .append) (xs := #[.tmp 43, .tmp 45]) rfl ?_); at_builtin; refine Kd.R_append (Kd.int .i64) (w0 := w0) w0.heap.size rfl (.tmp 43) (.tmp 45) 22 3 (.int .i64 0) 8 rfl Try.underlying22 infoI rfl (by decide) (by omega) v out a [.int .i64 a] (fun _ => True) (fun _ => False) rfl rfl ?aP (fun _ hk => hk.elim) ?aF ?aO ?aB ?aS ?aL ?_; (case aP => exact rfl); (case aB => exact HW.out.below); (case aF => exact (fun _ _ => trivial)); (case aO => exact HW.out.own); (case aS => exact HW.out.below.size); (case aL => have := HL.out; omega); intro v1 w1 ho hb hg hat; rw [← HY.out] at ho; obtain ⟨Av, cv, ev⟩ := Kd.R_slice ho; subst ev; obtain ⟨hb1, hW2, hF⟩ := HW.out.push ho hb hg hat; clear ho hb hg hat; have hc3' : w1.cell? ⟨g, 3, none⟩ = some v := (blk_cell hb1 3).trans rfl; have hf3' := blk_frozen hb1 3; clear hb1; have hd0 : (w1.setCell ⟨g, 3, none⟩ (.slice Av y.length cv)).cell? ⟨g, 0, none⟩ = some (.slice (some ad) lK.length cK) := (blk_cell hW2.blk 0).trans rfl; have hd1 : (w1.setCell ⟨g, 3, none⟩ (.slice Av y.length cv)).cell? ⟨g, 1, none⟩ = some (.slice AP lP.length cP) := (blk_cell hW2.blk 1).trans rfl; have HW2 := Aside0.mk hW2; clear hW2; have HF := Aside0.mk hF; clear hF) | (go_at_call 25; (with_reducible refine (shape_Kids.calls k _ _ lK _ _ lP a _ _ ?s1 ?s2 ?s3 ?s4 HK.out).mono ?_); (case s1 => exact Kd.C_below hK HW2.out.below); (case s2 => exact hcK); (case s3 => exact Kd.C_below hP HW2.out.below); (case s4 => exact hcP); rintro e w3 ⟨vk, rfl, hok, hb3⟩; rw [← HLL.out] at hok; obtain ⟨Ak, ck, ek⟩ := Kd.R_slice hok; subst ek; have HOK := Aside0.mk hok; clear hok; have HB3 := Aside0.mk hb3; clear hb3))
  go_loopg [5, 56] L.length (fun kq v5 v56 w' => ∃ (xi : Int) (v' : Value), v56 = .int .i64 xi ∧ Aside0 (0 ≤ xi ∧ xi + kq = L.length) ∧ Aside0 (WW w0 w' g (.slice (some ad) lK.length cK) (.slice AP lP.length cP) (.slice AQ lQ.length cQ) v' (y ++ (L.take xi.toNat).flatMap F)) ∧ Aside0 (Fr w3 w' g (.slice Av y.length cv) v'))
  case atStart => exact ⟨0, _, rfl, ⟨by omega, by omega⟩, ⟨by simpa using HW2.out.step HB3.out⟩, ⟨Fr.refl _ _ _⟩⟩
  case round =>
    obtain ⟨xi, v', rfl, HX, HW3, HF3⟩ := hrel
    cases gk with
    | zero =>
      have c1 : decide (xi < (L.length : Int)) = false := decide_eq_false (by have := HX.out; omega)
      have hdone : y ++ (L.take xi.toNat).flatMap F = y ++ L.flatMap F := by rw [List.take_of_length_le (by have := HX.out; omega)]
      have HD := Aside0.mk hdone
      clear hdone
      go_wp2
      refine bodyPost_ret (v := .tuple #[]) (by simp [results, Try.results52, go_sem]) rfl ?_
      rw [← HLL.out, ← HD.out]
      exact ⟨rfl, v', HW3.out, (HF.out.trans (Fr.of_below HB3.out g _)).trans HF3.out⟩
    | succ k1 =>
      have c0 := eq_true HX.out.1
      have hlt : xi < (L.length : Int) := by have := HX.out; omega
      have c1 := eq_true hlt
      have c2 : decide (xi < (L.length : Int)) = true := decide_eq_true hlt
      have hr := row_after HOK.out HW2.out.lt (Kd.R_lt HW2.out.own) HF3.out
      obtain ⟨adk, ek, hxk⟩ := Kd.at_int (Kd.R_reads' hr).2.2 xi HX.out.1 (by omega)
      subst ek
      clear hr hlt
      have hmem : rd L xi ∈ kids lP a := by
        rw [← HLL.out]
        have := HX.out
        unfold rd
        rw [List.getD_eq_getElem?_getD, List.getElem?_eq_getElem (by omega)]; exact List.getElem_mem _
      have hft : (L.take (xi + 1).toNat).flatMap F = (L.take xi.toNat).flatMap F ++ F (rd L xi) := by
        have := HX.out
        rw [show (xi + 1).toNat = xi.toNat + 1 by omega, flat_take (by omega), show ((xi.toNat : Nat) : Int) = xi by omega]
      have hbd : (y ++ (L.take xi.toNat).flatMap F ++ F (rd L xi)).length < 17592186044416 := by
        rw [List.append_assoc, ← hft, List.length_append]
        have := flat_le (F := F) (L := L) (xi + 1).toNat
        have := HLY.out
        rw [← HLL.out] at this
        omega
      have HM := Aside0.mk hmem
      have HFT := Aside0.mk hft
      have HBD := Aside0.mk hbd
      clear hmem hft hbd
      have hw : wrap64 (xi + 1) = xi + 1 := by have := HX.out; exact w64 (by omega) (by omega)
      have HWR := Aside0.mk hw
      clear hw
      go_wp2_with (go_at_call 52; (with_reducible refine (HH.out _ HM.out _ _ _ HW3.out HBD.out).mono ?_); rintro e w4 ⟨rfl, v4, hW4, hF4⟩; have HW4 := Aside0.mk hW4; have HF4 := Aside0.mk hF4; clear hW4 hF4)
      go_roundg k1
      case measure => have := HX.out; omega
      case rel => exact ⟨wrap64 (xi + 1), v4, (by first | rfl | (simp; done) | (simp [*]; done)), ⟨by rw [HWR.out]; have := HX.out; omega⟩, ⟨by rw [HWR.out, HFT.out, ← List.append_assoc]; exact HW4.out⟩, ⟨HF3.out.trans HF4.out⟩⟩

theorem in_solid {w0 : World} {AK AP AQ : Option Addr} {cK cP cQ : Nat} {lK lP lQ : List Int} {g : Nat}
    (hK : Kd.C (Kd.int .i64) w0 AK lK.length lK) (hcK : lK.length ≤ cK) (hP : Kd.C (Kd.int .i64) w0 AP lP.length lP) (hcP : lP.length ≤ cP) (hO : Ok lK lP) :
    ∀ (f : Nat) (a : Int), 0 ≤ a → a < lK.length → (lK.length : Int) - a ≤ f → solidB (rd lK a) = true → ∀ (w : World) (v : Value) (out : List Int),
    WW w0 w g (.slice AK lK.length cK) (.slice AP lP.length cP) (.slice AQ lQ.length cQ) v out → (out ++ inS lK lP f a).length < 17592186044416 →
    Calls Try.prog 52 #[.pointer (some ⟨g, 0, none⟩), .int .i64 a] w (Put w0 w g (.slice AK lK.length cK) (.slice AP lP.length cP) (.slice AQ lQ.length cQ) v (out ++ inS lK lP f a)) := by
  have hn := hO.1
  have h24 := hO.2.2.2.2
  intro f
  induction f with
  | zero => intro a h0 h1 h2; omega
  | succ f ih =>
    intro a h0 h1 h2 hs w v out hW hl
    rw [inS] at hl ⊢
    rcases solidB_iff.1 hs with hk | hk
    · rw [if_neg (by omega)] at hl ⊢
      rcases initial_cases lK lP a with hi | ⟨hi, hsi⟩
      · rw [hi, if_neg (by omega)] at hl ⊢
        exact in_leaf hK hcK hP hcP hn h24 a h0 h1 hk w v out hW hl hi
      · obtain ⟨x0, x1, x2, _⟩ := hO.kid hi
        rw [if_pos x0] at hl ⊢
        have e : out ++ a :: inS lK lP f (initial lK lP a) = (out ++ [a]) ++ inS lK lP f (initial lK lP a) := by simp
        rw [e] at hl ⊢
        exact in_plain hK hcK hP hcP hn h24 a h0 h1 hk w v out hW (initial lK lP a) x0 _ (by rw [List.length_append] at hl; omega) rfl
          (fun w v hW => ih (initial lK lP a) x0 x1 (by omega) hsi w v _ hW hl)
    · rw [if_pos hk] at hl ⊢
      have e : out ++ a :: (kids lP a).flatMap (inS lK lP f) = (out ++ [a]) ++ (kids lP a).flatMap (inS lK lP f) := by simp
      rw [e] at hl ⊢
      refine in_all hK hcK hP hcP hn h24 a h0 h1 hk w v out hW (inS lK lP f) hl (fun x hx w v out hW hl => ?_)
      obtain ⟨x0, x1, x2, _, _, x3⟩ := hO.kid hx
      have := (x3 (by omega)).2
      refine ih x x0 x1 (by omega) ?_ w v out hW hl
      rcases this with h | h
      · exact h
      · omega
end Go.Proofs.Ytnomeokicfpidaa.EW
-- printed by myprint.py: a program of this repo over the kit's print
namespace Go.Proofs.Ytnomeokicfpidaa.Q
open Go.RowKit Go.Proofs.YtnomeokicfpidaaW.PrintWords Go.Proofs.YtnomeokicfpidaaW.PrintLast Go.Proofs.YtnomeokicfpidaaW.PrintMore
attribute [local go_sem] max2_int min2_int max_two min_two max_three min_three max_four min_four   -- for this text's walks alone
set_option linter.unusedVariables false
set_option linter.unusedSimpArgs false

/-! ### shape_Shape_is: function 51 -/
def shape_Shape_is.f (l0_0 : List Int) (l0_1 : List Int) (a1 : Int) : Option (Bool) := if a1 ≥ 0 then (some (decide (a1 < (l0_0.length : Int)))) else (some false)
set_option maxHeartbeats 8000000 in
set_option maxRecDepth 100000 in
theorem shape_Shape_is.calls (A0_0 : Option Addr) (c0_0 : Nat) (l0_0 : List Int) (A0_1 : Option Addr) (c0_1 : Nat) (l0_1 : List Int) (a1 : Int) (r : Bool) (w : World) (hr0_0 : Kd.C (Kd.int .i64) w A0_0 l0_0.length l0_0) (hc0_0 : l0_0.length ≤ c0_0) (hr0_1 : Kd.C (Kd.int .i64) w A0_1 l0_1.length l0_1) (hc0_1 : l0_1.length ≤ c0_1) (h : shape_Shape_is.f l0_0 l0_1 a1 = some r) :
    Calls Try.prog 51 #[.agg #[.slice A0_0 l0_0.length c0_0, .slice A0_1 l0_1.length c0_1], .int .i64 a1] w fun e w' => e = .returned (.bool r) ∧ Below w.heap.size w w' := by
  have hu24 := Try.underlying24
  have HR0_0 := Aside0.mk hr0_0
  have HC0_0 := Aside0.mk hc0_0
  clear hr0_0 hc0_0
  have HR0_1 := Aside0.mk hr0_1
  have HC0_1 := Aside0.mk hc0_1
  clear hr0_1 hc0_1
  have HB := Aside0.mk (Below.refl w.heap.size w)
  have H : (if a1 ≥ 0 then (some (decide (a1 < (l0_0.length : Int)))) else (some false)) = some r := h
  clear h
  by_cases c3 : a1 ≥ 0
  · rw [if_pos c3] at H
    have c3b0 : decide (0 ≤ a1) = true := decide_eq_true c3
    clear c3
    obtain rfl := Option.some.inj H
    go_enter Try.func51, Try.ntmps51
    go_wp2_with (first | ((with_reducible refine gate_dst (N := 2) rfl ?_); (try (refine gate_guard (by rfl) ?_; dsimp only)); refine box_event ?hg (N := 2) ?hd (cs := #[.slice A0_0 l0_0.length c0_0, .slice A0_1 l0_1.length c0_1]) (t := 24) ?hr ?_; (case hd => rfl); (case hg => rfl); (case hr => first | (go_simp; done) | (go_simp; rfl)); intro gb101 hg w4 hbox hb; have n0_ := Aside0.mk (below_step (by repeat (first | (with_reducible first | exact HB.out | apply below_alloc | apply pw_below_drewN | apply below_drew1) | exact HB.out)) hb); have n1_ := Aside0.mk (hbox); have n2_ := Aside0.mk ((by rw [hg]; exact (below_size (by repeat (first | (with_reducible first | exact HB.out | apply below_alloc | apply pw_below_drewN | apply below_drew1) | exact HB.out))) : w.heap.size ≤ gb101)); have n3_ := Aside0.mk ((by rw [hg]; exact (below_size (by repeat (first | (with_reducible first | exact HB.out | apply below_alloc | apply pw_below_drewN | apply below_drew1) | exact HB.out))) : w.heap.size ≤ gb101)); clear HB; have HB := n0_; have BK101 := n1_; have GW101 := n2_; have GE101 := n3_; clear n0_ n1_ n2_ n3_; clear hb hbox hg; have hcz5_0 : w4.cell? ⟨gb101, 0, none⟩ = some (.slice A0_0 l0_0.length c0_0) := (blk_cell BK101.out 0).trans rfl; have hcz5_1 : w4.cell? ⟨gb101, 1, none⟩ = some (.slice A0_1 l0_1.length c0_1) := (blk_cell BK101.out 1).trans rfl; have hfz5_0 := blk_frozen BK101.out 0; have hfz5_1 := blk_frozen BK101.out 1))
    go_ret
    exact ⟨by first | rfl | (simp [errW_none, errW_some] <;> rfl) | (simp [*, errW_none, errW_some] <;> rfl), by repeat (first | (with_reducible first | exact HB.out | apply below_alloc | apply pw_below_drewN | apply below_drew1 | refine below_set ?_ GE101.out) | exact HB.out)⟩
  · rw [if_neg c3] at H
    have c3b0 : decide (0 ≤ a1) = false := decide_eq_false c3
    clear c3
    obtain rfl := Option.some.inj H
    go_enter Try.func51, Try.ntmps51
    go_wp2_with (first | ((with_reducible refine gate_dst (N := 2) rfl ?_); (try (refine gate_guard (by rfl) ?_; dsimp only)); refine box_event ?hg (N := 2) ?hd (cs := #[.slice A0_0 l0_0.length c0_0, .slice A0_1 l0_1.length c0_1]) (t := 24) ?hr ?_; (case hd => rfl); (case hg => rfl); (case hr => first | (go_simp; done) | (go_simp; rfl)); intro gb101 hg w6 hbox hb; have n0_ := Aside0.mk (below_step (by repeat (first | (with_reducible first | exact HB.out | apply below_alloc | apply pw_below_drewN | apply below_drew1) | exact HB.out)) hb); have n1_ := Aside0.mk (hbox); have n2_ := Aside0.mk ((by rw [hg]; exact (below_size (by repeat (first | (with_reducible first | exact HB.out | apply below_alloc | apply pw_below_drewN | apply below_drew1) | exact HB.out))) : w.heap.size ≤ gb101)); have n3_ := Aside0.mk ((by rw [hg]; exact (below_size (by repeat (first | (with_reducible first | exact HB.out | apply below_alloc | apply pw_below_drewN | apply below_drew1) | exact HB.out))) : w.heap.size ≤ gb101)); clear HB; have HB := n0_; have BK101 := n1_; have GW101 := n2_; have GE101 := n3_; clear n0_ n1_ n2_ n3_; clear hb hbox hg))
    go_ret
    exact ⟨by first | rfl | (simp [errW_none, errW_some] <;> rfl) | (simp [*, errW_none, errW_some] <;> rfl), by repeat (first | (with_reducible first | exact HB.out | apply below_alloc | apply pw_below_drewN | apply below_drew1 | refine below_set ?_ GE101.out) | exact HB.out)⟩

end Go.Proofs.Ytnomeokicfpidaa.Q
-- printed by myprint.py: a program of this repo over the kit's print
namespace Go.Proofs.Ytnomeokicfpidaa.Q
open Go.RowKit Go.Proofs.YtnomeokicfpidaaW.PrintWords Go.Proofs.YtnomeokicfpidaaW.PrintLast Go.Proofs.YtnomeokicfpidaaW.PrintMore
attribute [local go_sem] max2_int min2_int max_two min_two max_three min_three max_four min_four   -- for this text's walks alone
set_option linter.unusedVariables false
set_option linter.unusedSimpArgs false

/-! ### shape_Under: function 27 -/
mutual
def shape_Under.j0 : Nat → Int → Int → Bool → List Int → List Int → Option (Bool)
  | 0, _, _, _, _, _ => none
  | k + 1, x1, x2, x20, x102000, x102001 => if x20 = true then (some false) else (shape_Under.l0 k x1 x2 x102000 x102001)
def shape_Under.l0 : Nat → Int → Int → List Int → List Int → Option (Bool)
  | 0, _, _, _, _ => none
  | k + 1, x1, x2, x102000, x102001 => if x1 > x2 then (if 0 ≤ x1 then (if x1 < (x102001.length : Int) then (shape_Under.l0 k (rd x102001 x1) x2 x102000 x102001) else (none)) else (none)) else (some (x1 == x2))
end
def shape_Under.f (k : Nat) (l0_0 : List Int) (l0_1 : List Int) (a1 : Int) (a2 : Int) : Option (Bool) := (shape_Shape_is.f l0_0 l0_1 a1).bind fun t102 => (if t102 = true then (if a2 = (-1) then (shape_Under.j0 k a1 a2 false l0_0 l0_1) else ((shape_Shape_is.f l0_0 l0_1 a2).bind fun t103 => (shape_Under.j0 k a1 a2 (!t103) l0_0 l0_1))) else (shape_Under.j0 k a1 a2 true l0_0 l0_1))
theorem shape_Under.mono_l : ∀ k, (∀ y0 y1 y2 y3 y4, LeO (shape_Under.j0 k y0 y1 y2 y3 y4) (shape_Under.j0 (k + 1) y0 y1 y2 y3 y4)) ∧ (∀ y0 y1 y2 y3, LeO (shape_Under.l0 k y0 y1 y2 y3) (shape_Under.l0 (k + 1) y0 y1 y2 y3))
  | 0 => ⟨fun _ _ _ _ _ r h => by simp [shape_Under.j0] at h, fun _ _ _ _ r h => by simp [shape_Under.l0] at h⟩
  | k + 1 => by
    obtain ⟨ih0, ih1⟩ := shape_Under.mono_l k
    refine ⟨?_, ?_⟩
    · intro y0 y1 y2 y3 y4
      unfold shape_Under.j0
      repeat' first
      | (with_reducible exact ih0 _ _ _ _ _)
      | (with_reducible exact ih1 _ _ _ _)
      | (with_reducible exact LeO.refl _)
      | (with_reducible exact LeO.none _)
      | (with_reducible refine LeO.ite ?_ ?_)
      | (with_reducible refine LeO.bind ?_ (fun _ => ?_))
      | exact ih0 _ _ _ _ _
      | exact ih1 _ _ _ _
      | exact LeO.none _
      | refine LeO.ite ?_ ?_
      | refine LeO.bind ?_ (fun _ => ?_)
    · intro y0 y1 y2 y3
      unfold shape_Under.l0
      repeat' first
      | (with_reducible exact ih0 _ _ _ _ _)
      | (with_reducible exact ih1 _ _ _ _)
      | (with_reducible exact LeO.refl _)
      | (with_reducible exact LeO.none _)
      | (with_reducible refine LeO.ite ?_ ?_)
      | (with_reducible refine LeO.bind ?_ (fun _ => ?_))
      | exact ih0 _ _ _ _ _
      | exact ih1 _ _ _ _
      | exact LeO.none _
      | refine LeO.ite ?_ ?_
      | refine LeO.bind ?_ (fun _ => ?_)
theorem shape_Under.mono : ∀ a0 a1 a2 a3 k, LeO (shape_Under.f k a0 a1 a2 a3) (shape_Under.f (k + 1) a0 a1 a2 a3) := by
  intro a0 a1 a2 a3 k
  obtain ⟨ih0, ih1⟩ := shape_Under.mono_l k
  unfold shape_Under.f
  repeat' first
      | (with_reducible exact ih0 _ _ _ _ _)
      | (with_reducible exact ih1 _ _ _ _)
      | (with_reducible exact LeO.refl _)
      | (with_reducible exact LeO.none _)
      | (with_reducible refine LeO.ite ?_ ?_)
      | (with_reducible refine LeO.bind ?_ (fun _ => ?_))
      | exact ih0 _ _ _ _ _
      | exact ih1 _ _ _ _
      | exact LeO.none _
      | refine LeO.ite ?_ ?_
      | refine LeO.bind ?_ (fun _ => ?_)
set_option maxHeartbeats 8000000 in
set_option maxRecDepth 100000 in
theorem shape_Under.calls (k : Nat) (A0_0 : Option Addr) (c0_0 : Nat) (l0_0 : List Int) (A0_1 : Option Addr) (c0_1 : Nat) (l0_1 : List Int) (a1 : Int) (a2 : Int) (r : Bool) (w : World) (hr0_0 : Kd.C (Kd.int .i64) w A0_0 l0_0.length l0_0) (hc0_0 : l0_0.length ≤ c0_0) (hr0_1 : Kd.C (Kd.int .i64) w A0_1 l0_1.length l0_1) (hc0_1 : l0_1.length ≤ c0_1) (h : shape_Under.f k l0_0 l0_1 a1 a2 = some r) :
    Calls Try.prog 27 #[.agg #[.slice A0_0 l0_0.length c0_0, .slice A0_1 l0_1.length c0_1], .int .i64 a1, .int .i64 a2] w fun e w' => e = .returned (.bool r) ∧ Below w.heap.size w w' := by
  have hu24 := Try.underlying24
  have HR0_0 := Aside0.mk hr0_0
  have HC0_0 := Aside0.mk hc0_0
  clear hr0_0 hc0_0
  have HR0_1 := Aside0.mk hr0_1
  have HC0_1 := Aside0.mk hc0_1
  clear hr0_1 hc0_1
  have HB := Aside0.mk (Below.refl w.heap.size w)
  have H : ((shape_Shape_is.f l0_0 l0_1 a1).bind fun t102 => (if t102 = true then (if a2 = (-1) then (shape_Under.j0 k a1 a2 false l0_0 l0_1) else ((shape_Shape_is.f l0_0 l0_1 a2).bind fun t103 => (shape_Under.j0 k a1 a2 (!t103) l0_0 l0_1))) else (shape_Under.j0 k a1 a2 true l0_0 l0_1))) = some r := h
  clear h
  have HC4 := Aside0.mk H
  clear H
  go_enter Try.func27, Try.ntmps27
  go_upto_region 1 with (first | ((with_reducible refine gate_dst (N := 3) rfl ?_); refine box_event ?hg (N := 3) ?hd (cs := #[.slice A0_0 l0_0.length c0_0, .slice A0_1 l0_1.length c0_1]) (t := 24) ?hr ?_; (case hd => rfl); (case hg => rfl); (case hr => first | (go_simp; done) | (go_simp; rfl)); intro gb101 hg w5 hbox hb; have n0_ := Aside0.mk (below_step (by repeat (first | (with_reducible first | exact HB.out | apply below_alloc | apply pw_below_drewN | apply below_drew1) | exact HB.out)) hb); have n1_ := Aside0.mk (hbox); have n2_ := Aside0.mk ((by rw [hg]; exact (below_size (by repeat (first | (with_reducible first | exact HB.out | apply below_alloc | apply pw_below_drewN | apply below_drew1) | exact HB.out))) : w.heap.size ≤ gb101)); have n3_ := Aside0.mk ((by rw [hg]; exact (below_size (by repeat (first | (with_reducible first | exact HB.out | apply below_alloc | apply pw_below_drewN | apply below_drew1) | exact HB.out))) : w.heap.size ≤ gb101)); clear HB; have HB := n0_; have BK101 := n1_; have GW101 := n2_; have GE101 := n3_; clear n0_ n1_ n2_ n3_; clear hb hbox hg))
  (try simp only [Act.put, List.setIfInBounds_toArray, List.set_cons_zero, List.set_cons_succ])
  go_cut [20] (fun v20 wc => ∃ (kq : Nat) (x20_3 : Bool), v20 = .bool x20_3 ∧ Aside0 (shape_Under.j0 kq a1 a2 x20_3 l0_0 l0_1 = some r) ∧ Aside0 (kq ≤ k) ∧ Aside0 (wc.heap[gb101]? = some (.cells #[(.slice A0_0 l0_0.length c0_0), (.slice A0_1 l0_1.length c0_1)] 24 (0, 0))) ∧ Aside0 (Below w.heap.size w wc))
  case first =>
    have H := HC4.out
    clear HC4
    replace H := Option.bind_eq_some_iff.mp H
    obtain ⟨t102, A60, H⟩ := H
    replace H : (if t102 = true then (if a2 = (-1) then (shape_Under.j0 k a1 a2 false l0_0 l0_1) else ((shape_Shape_is.f l0_0 l0_1 a2).bind fun t103 => (shape_Under.j0 k a1 a2 (!t103) l0_0 l0_1))) else (shape_Under.j0 k a1 a2 true l0_0 l0_1)) = some r := H
    have A6 := Aside0.mk A60
    clear A60
    by_cases c7 : t102 = true
    · subst c7
      have H1 : (if a2 = (-1) then (shape_Under.j0 k a1 a2 false l0_0 l0_1) else ((shape_Shape_is.f l0_0 l0_1 a2).bind fun t103 => (shape_Under.j0 k a1 a2 (!t103) l0_0 l0_1))) = some r := by rw [if_pos rfl] at H; exact H
      clear H
      have H := H1
      clear H1
      by_cases c8 : a2 = (-1)
      · rw [if_pos c8] at H
        have c8b0 : (a2 == (-1)) = true := beq_iff_eq.mpr c8
        have c8b1 : (a2 != (-1)) = false := bne_eq_false_iff_eq.mpr c8
        clear c8
        (first | rw [c8b0] | (simp only [i64_w, i32_w]; rw [c8b0]) | skip)
        have H' := Aside0.mk H
        clear H
        have hcz9_0 : w5.cell? ⟨gb101, 0, none⟩ = some (.slice A0_0 l0_0.length c0_0) := (blk_cell BK101.out 0).trans rfl
        have hcz9_1 : w5.cell? ⟨gb101, 1, none⟩ = some (.slice A0_1 l0_1.length c0_1) := (blk_cell BK101.out 1).trans rfl
        have hfz9_0 := blk_frozen BK101.out 0
        have hfz9_1 := blk_frozen BK101.out 1
        go_wp2_with (first | ((with_reducible refine gate_callee (f := 51) rfl ?_); refine goesL_ (some 9) rfl rfl Try.func51 (by kernel_rfl) rfl #[.agg #[.slice A0_0 l0_0.length c0_0, .slice A0_1 l0_1.length c0_1], .int .i64 a1] rfl (by (try simp only [List.map_toArray, List.map_cons, List.map_nil]); first | done | rfl | (simp only [List.length_drop, List.length_take]; rfl)) ?_; (with_reducible refine (shape_Shape_is.calls _ _ l0_0 _ _ l0_1 a1 true _ ?side1 ?side2 ?side3 ?side4 A6.out).mono ?_); (case side1 => repeat (first | exact (Kd.C_below HR0_0.out HB.out) | (with_reducible refine Kd.C_alloc ?_ _) | (with_reducible refine Kd.C_drewN ?_ _) | (with_reducible refine Kd.C_drew ?_))); (case side2 => exact HC0_0.out); (case side3 => repeat (first | exact (Kd.C_below HR0_1.out HB.out) | (with_reducible refine Kd.C_alloc ?_ _) | (with_reducible refine Kd.C_drewN ?_ _) | (with_reducible refine Kd.C_drew ?_))); (case side4 => exact HC0_1.out); rintro e w10 ⟨rfl, hb⟩; refine ⟨_, rfl, ?_⟩; have n0_ := Aside0.mk (blk_below (g := gb101) (o := .cells #[.slice A0_0 l0_0.length c0_0, .slice A0_1 l0_1.length c0_1] 24 (0, 0)) (by (with_reducible repeat (first | refine blk_drewN ?_ _ | refine blk_drew ?_ | refine blk_alloc ?_ _)); exact BK101.out) hb); have n1_ := Aside0.mk (below_step (by repeat (first | (with_reducible first | exact HB.out | apply below_alloc | apply pw_below_drewN | apply below_drew1 | refine below_set ?_ GE101.out) | exact HB.out)) hb); clear BK101; clear HB; have BK101 := n0_; have HB := n1_; clear n0_ n1_; (try clear hb); (try clear hb2); (try clear hk); (try clear hi)))
        go_meet
        case rel => exact ⟨_, (false), (by first | rfl | (simp; done) | (simp [*]; done)), H', ⟨by first | omega | exact Nat.le_refl _⟩, ⟨by (with_reducible repeat (first | refine blk_drewN ?_ _ | refine blk_drew ?_ | refine blk_alloc ?_ _)); exact BK101.out⟩, ⟨by repeat (first | (with_reducible first | exact HB.out | apply below_alloc | apply pw_below_drewN | apply below_drew1 | refine below_set ?_ GE101.out) | exact HB.out)⟩⟩
      · rw [if_neg c8] at H
        have c8b0 : (a2 == (-1)) = false := beq_eq_false_iff_ne.mpr c8
        have c8b1 : (a2 != (-1)) = true := bne_iff_ne.mpr c8
        (first | rw [c8b0] | (simp only [i64_w, i32_w]; rw [c8b0]) | skip)
        replace H := Option.bind_eq_some_iff.mp H
        obtain ⟨t103, A110, H⟩ := H
        replace H : (shape_Under.j0 k a1 a2 (!t103) l0_0 l0_1) = some r := H
        have A11 := Aside0.mk A110
        clear A110
        have H' := Aside0.mk H
        clear H
        have hcz12_0 : w5.cell? ⟨gb101, 0, none⟩ = some (.slice A0_0 l0_0.length c0_0) := (blk_cell BK101.out 0).trans rfl
        have hcz12_1 : w5.cell? ⟨gb101, 1, none⟩ = some (.slice A0_1 l0_1.length c0_1) := (blk_cell BK101.out 1).trans rfl
        have hfz12_0 := blk_frozen BK101.out 0
        have hfz12_1 := blk_frozen BK101.out 1
        go_wp2_with (first | ((with_reducible refine gate_callee (f := 51) rfl ?_); refine goesL_ (some 9) rfl rfl Try.func51 (by kernel_rfl) rfl #[.agg #[.slice A0_0 l0_0.length c0_0, .slice A0_1 l0_1.length c0_1], .int .i64 a1] rfl (by (try simp only [List.map_toArray, List.map_cons, List.map_nil]); first | done | rfl | (simp only [List.length_drop, List.length_take]; rfl)) ?_; (with_reducible refine (shape_Shape_is.calls _ _ l0_0 _ _ l0_1 a1 true _ ?side1 ?side2 ?side3 ?side4 A6.out).mono ?_); (case side1 => repeat (first | exact (Kd.C_below HR0_0.out HB.out) | (with_reducible refine Kd.C_alloc ?_ _) | (with_reducible refine Kd.C_drewN ?_ _) | (with_reducible refine Kd.C_drew ?_))); (case side2 => exact HC0_0.out); (case side3 => repeat (first | exact (Kd.C_below HR0_1.out HB.out) | (with_reducible refine Kd.C_alloc ?_ _) | (with_reducible refine Kd.C_drewN ?_ _) | (with_reducible refine Kd.C_drew ?_))); (case side4 => exact HC0_1.out); rintro e w13 ⟨rfl, hb⟩; refine ⟨_, rfl, ?_⟩; have n0_ := Aside0.mk (blk_below (g := gb101) (o := .cells #[.slice A0_0 l0_0.length c0_0, .slice A0_1 l0_1.length c0_1] 24 (0, 0)) (by (with_reducible repeat (first | refine blk_drewN ?_ _ | refine blk_drew ?_ | refine blk_alloc ?_ _)); exact BK101.out) hb); have n1_ := Aside0.mk (below_step (by repeat (first | (with_reducible first | exact HB.out | apply below_alloc | apply pw_below_drewN | apply below_drew1 | refine below_set ?_ GE101.out) | exact HB.out)) hb); clear BK101; clear HB; have BK101 := n0_; have HB := n1_; clear n0_ n1_; (try clear hb); (try clear hb2); (try clear hk); (try clear hi); have hcz14_0 : w13.cell? ⟨gb101, 0, none⟩ = some (.slice A0_0 l0_0.length c0_0) := (blk_cell BK101.out 0).trans rfl; have hcz14_1 : w13.cell? ⟨gb101, 1, none⟩ = some (.slice A0_1 l0_1.length c0_1) := (blk_cell BK101.out 1).trans rfl; have hfz14_0 := blk_frozen BK101.out 0; have hfz14_1 := blk_frozen BK101.out 1) | (go_at_call 51; (with_reducible refine (shape_Shape_is.calls _ _ l0_0 _ _ l0_1 a2 t103 _ ?side1 ?side2 ?side3 ?side4 A11.out).mono ?_); (case side1 => repeat (first | exact (Kd.C_below HR0_0.out HB.out) | (with_reducible refine Kd.C_alloc ?_ _) | (with_reducible refine Kd.C_drewN ?_ _) | (with_reducible refine Kd.C_drew ?_))); (case side2 => exact HC0_0.out); (case side3 => repeat (first | exact (Kd.C_below HR0_1.out HB.out) | (with_reducible refine Kd.C_alloc ?_ _) | (with_reducible refine Kd.C_drewN ?_ _) | (with_reducible refine Kd.C_drew ?_))); (case side4 => exact HC0_1.out); rintro e w15 ⟨rfl, hb⟩; have n0_ := Aside0.mk (blk_below (g := gb101) (o := .cells #[.slice A0_0 l0_0.length c0_0, .slice A0_1 l0_1.length c0_1] 24 (0, 0)) (by (with_reducible repeat (first | refine blk_drewN ?_ _ | refine blk_drew ?_ | refine blk_alloc ?_ _)); exact BK101.out) hb); have n1_ := Aside0.mk (below_step (by repeat (first | (with_reducible first | exact HB.out | apply below_alloc | apply pw_below_drewN | apply below_drew1 | refine below_set ?_ GE101.out) | exact HB.out)) hb); clear BK101; clear HB; have BK101 := n0_; have HB := n1_; clear n0_ n1_; (try clear hb); (try clear hb2); (try clear hk); (try clear hi)))
        go_meet
        case rel => exact ⟨_, (!t103), (by first | rfl | (simp; done) | (simp [*]; done)), H', ⟨by first | omega | exact Nat.le_refl _⟩, ⟨by (with_reducible repeat (first | refine blk_drewN ?_ _ | refine blk_drew ?_ | refine blk_alloc ?_ _)); exact BK101.out⟩, ⟨by repeat (first | (with_reducible first | exact HB.out | apply below_alloc | apply pw_below_drewN | apply below_drew1 | refine below_set ?_ GE101.out) | exact HB.out)⟩⟩
    · replace c7 := Bool.eq_false_iff.mpr c7
      subst c7
      have H1 : (shape_Under.j0 k a1 a2 true l0_0 l0_1) = some r := by rw [if_neg (show ¬ (false = true) by decide)] at H; exact H
      clear H
      have H := H1
      clear H1
      have H' := Aside0.mk H
      clear H
      have hcz16_0 : w5.cell? ⟨gb101, 0, none⟩ = some (.slice A0_0 l0_0.length c0_0) := (blk_cell BK101.out 0).trans rfl
      have hcz16_1 : w5.cell? ⟨gb101, 1, none⟩ = some (.slice A0_1 l0_1.length c0_1) := (blk_cell BK101.out 1).trans rfl
      have hfz16_0 := blk_frozen BK101.out 0
      have hfz16_1 := blk_frozen BK101.out 1
      go_wp2_with (first | ((with_reducible refine gate_callee (f := 51) rfl ?_); refine goesL_ (some 9) rfl rfl Try.func51 (by kernel_rfl) rfl #[.agg #[.slice A0_0 l0_0.length c0_0, .slice A0_1 l0_1.length c0_1], .int .i64 a1] rfl (by (try simp only [List.map_toArray, List.map_cons, List.map_nil]); first | done | rfl | (simp only [List.length_drop, List.length_take]; rfl)) ?_; (with_reducible refine (shape_Shape_is.calls _ _ l0_0 _ _ l0_1 a1 false _ ?side1 ?side2 ?side3 ?side4 A6.out).mono ?_); (case side1 => repeat (first | exact (Kd.C_below HR0_0.out HB.out) | (with_reducible refine Kd.C_alloc ?_ _) | (with_reducible refine Kd.C_drewN ?_ _) | (with_reducible refine Kd.C_drew ?_))); (case side2 => exact HC0_0.out); (case side3 => repeat (first | exact (Kd.C_below HR0_1.out HB.out) | (with_reducible refine Kd.C_alloc ?_ _) | (with_reducible refine Kd.C_drewN ?_ _) | (with_reducible refine Kd.C_drew ?_))); (case side4 => exact HC0_1.out); rintro e w17 ⟨rfl, hb⟩; refine ⟨_, rfl, ?_⟩; have n0_ := Aside0.mk (blk_below (g := gb101) (o := .cells #[.slice A0_0 l0_0.length c0_0, .slice A0_1 l0_1.length c0_1] 24 (0, 0)) (by (with_reducible repeat (first | refine blk_drewN ?_ _ | refine blk_drew ?_ | refine blk_alloc ?_ _)); exact BK101.out) hb); have n1_ := Aside0.mk (below_step (by repeat (first | (with_reducible first | exact HB.out | apply below_alloc | apply pw_below_drewN | apply below_drew1 | refine below_set ?_ GE101.out) | exact HB.out)) hb); clear BK101; clear HB; have BK101 := n0_; have HB := n1_; clear n0_ n1_; (try clear hb); (try clear hb2); (try clear hk); (try clear hi)))
      go_meet
      case rel => exact ⟨_, (true), (by first | rfl | (simp; done) | (simp [*]; done)), H', ⟨by first | omega | exact Nat.le_refl _⟩, ⟨by (with_reducible repeat (first | refine blk_drewN ?_ _ | refine blk_drew ?_ | refine blk_alloc ?_ _)); exact BK101.out⟩, ⟨by repeat (first | (with_reducible first | exact HB.out | apply below_alloc | apply pw_below_drewN | apply below_drew1 | refine below_set ?_ GE101.out) | exact HB.out)⟩⟩
  case rest =>
    clear HC4
    try clear c2
    try clear p2
    try clear c5
    try clear c7
    try clear c8
    try clear c8b0
    try clear c8b1
    try clear hcz12_0
    try clear hcz12_1
    try clear hcz14_0
    try clear hcz14_1
    try clear hcz16_0
    try clear hcz16_1
    try clear hcz9_0
    try clear hcz9_1
    try clear hfz12_0
    try clear hfz12_1
    try clear hfz14_0
    try clear hfz14_1
    try clear hfz16_0
    try clear hfz16_1
    try clear hfz9_0
    try clear hfz9_1
    obtain ⟨kq, x20_3, rfl, HA, HJ3, BK101, HB⟩ := hcut
    cases kq with
    | zero => exact absurd HA.out (by simp [shape_Under.j0])
    | succ kj3 =>
      have H := HA.out
      clear HA
      simp only [shape_Under.j0] at H
      by_cases c18 : x20_3 = true
      · subst c18
        have H1 : (some false) = some r := by rw [if_pos rfl] at H; exact H
        clear H
        have H := H1
        clear H1
        obtain rfl := Option.some.inj H
        go_wp2
        go_ret
        exact ⟨by first | rfl | (simp [errW_none, errW_some] <;> rfl) | (simp [*, errW_none, errW_some] <;> rfl), by repeat (first | (with_reducible first | exact HB.out | apply below_alloc | apply pw_below_drewN | apply below_drew1 | refine below_set ?_ GE101.out) | exact HB.out)⟩
      · replace c18 := Bool.eq_false_iff.mpr c18
        subst c18
        have H1 : (shape_Under.l0 kj3 a1 a2 l0_0 l0_1) = some r := by rw [if_neg (show ¬ (false = true) by decide)] at H; exact H
        clear H
        have H := H1
        clear H1
        have H' := Aside0.mk H
        clear H
        go_wp2
        go_loopg [1] kj3 (fun kq v1 w' => ∃ (x1_2 : Int), v1 = .int .i64 x1_2 ∧ Aside0 (shape_Under.l0 kq x1_2 a2 l0_0 l0_1 = some r) ∧ Aside0 (kq ≤ kj3) ∧ Aside0 (w'.heap[gb101]? = some (.cells #[(.slice A0_0 l0_0.length c0_0), (.slice A0_1 l0_1.length c0_1)] 24 (0, 0))) ∧ Aside0 (Below w.heap.size w w'))
        case atStart => exact ⟨(a1), (by first | rfl | (simp; done) | (simp [*]; done)), H', ⟨Nat.le_refl _⟩, ⟨by (with_reducible repeat (first | refine blk_drewN ?_ _ | refine blk_drew ?_ | refine blk_alloc ?_ _)); exact BK101.out⟩, ⟨by repeat (first | (with_reducible first | exact HB.out | apply below_alloc | apply pw_below_drewN | apply below_drew1 | refine below_set ?_ GE101.out) | exact HB.out)⟩⟩
        case round =>
          clear H'
          try clear c1
          try clear c2
          try clear p2
          try clear c5
          try clear c7
          try clear c8
          try clear c8b0
          try clear c8b1
          try clear c18
          try clear hcz12_0
          try clear hcz12_1
          try clear hcz14_0
          try clear hcz14_1
          try clear hcz16_0
          try clear hcz16_1
          try clear hcz9_0
          try clear hcz9_1
          try clear hfz12_0
          try clear hfz12_1
          try clear hfz14_0
          try clear hfz14_1
          try clear hfz16_0
          try clear hfz16_1
          try clear hfz9_0
          try clear hfz9_1
          try clear p2
          obtain ⟨x1_2, rfl, HA, HK2, BK101, HB⟩ := hrel
          cases gk with
          | zero => exact absurd HA.out (by simp [shape_Under.l0])
          | succ k2 =>
            have H := HA.out
            clear HA
            simp only [shape_Under.l0] at H
            by_cases c19 : x1_2 > a2
            · rw [if_pos c19] at H
              have c19b0 : decide (a2 < x1_2) = true := decide_eq_true c19
              clear c19
              by_cases c20 : 0 ≤ x1_2
              · rw [if_pos c20] at H
                have c20b0 : decide (0 ≤ x1_2) = true := decide_eq_true c20
                clear c20
                by_cases c21 : x1_2 < (l0_1.length : Int)
                · rw [if_pos c21] at H
                  have c21b0 : decide (x1_2 < (l0_1.length : Int)) = true := decide_eq_true c21
                  clear c21
                  have H' := Aside0.mk H
                  clear H
                  have hcz22_0 : wr.cell? ⟨gb101, 0, none⟩ = some (.slice A0_0 l0_0.length c0_0) := (blk_cell BK101.out 0).trans rfl
                  have hcz22_1 : wr.cell? ⟨gb101, 1, none⟩ = some (.slice A0_1 l0_1.length c0_1) := (blk_cell BK101.out 1).trans rfl
                  have hfz22_0 := blk_frozen BK101.out 0
                  have hfz22_1 := blk_frozen BK101.out 1
                  have p104 : 0 ≤ (x1_2 : Int) := of_decide_eq_true (by first | (with_reducible assumption) | assumption)
                  have q104 : x1_2 < (l0_1.length : Int) := of_decide_eq_true (by first | (with_reducible assumption) | assumption)
                  obtain ⟨ad104, e104, hx104_0⟩ := Kd.at_int HR0_1.out x1_2 p104 q104
                  cases e104
                  replace hx104_0 := (HB.out.cell (World.block_lt_of_cell? w _ hx104_0)).trans hx104_0
                  replace p104 := eq_true p104
                  replace q104 := eq_true q104
                  go_wp2
                  go_roundg k2
                  case measure => have := HJ3.out; have := HK2.out; omega
                  case rel => exact ⟨(rd l0_1 x1_2), (by first | rfl | (simp; done) | (simp [*]; done)), H', ⟨by have := HJ3.out; have := HK2.out; omega⟩, ⟨by (with_reducible repeat (first | refine blk_drewN ?_ _ | refine blk_drew ?_ | refine blk_alloc ?_ _)); exact BK101.out⟩, ⟨by repeat (first | (with_reducible first | exact HB.out | apply below_alloc | apply pw_below_drewN | apply below_drew1 | refine below_set ?_ GE101.out) | exact HB.out)⟩⟩
                · rw [if_neg c21] at H
                  exact absurd H (by simp)
              · rw [if_neg c20] at H
                exact absurd H (by simp)
            · rw [if_neg c19] at H
              have c19b0 : decide (a2 < x1_2) = false := decide_eq_false c19
              clear c19
              obtain rfl := Option.some.inj H
              go_wp2
              go_ret
              exact ⟨by first | rfl | (simp [errW_none, errW_some] <;> rfl) | (simp [*, errW_none, errW_some] <;> rfl), by repeat (first | (with_reducible first | exact HB.out | apply below_alloc | apply pw_below_drewN | apply below_drew1 | refine below_set ?_ GE101.out) | exact HB.out)⟩

end Go.Proofs.Ytnomeokicfpidaa.Q
-- printed by myprint.py: a program of this repo over the kit's print
namespace Go.Proofs.Ytnomeokicfpidaa.Q
open Go.RowKit Go.Proofs.YtnomeokicfpidaaW.PrintWords Go.Proofs.YtnomeokicfpidaaW.PrintLast Go.Proofs.YtnomeokicfpidaaW.PrintMore
attribute [local go_sem] max2_int min2_int max_two min_two max_three min_three max_four min_four   -- for this text's walks alone
set_option linter.unusedVariables false
set_option linter.unusedSimpArgs false

/-! ### enter_in: function 58 -/
def enter_in.f (a0 : Int) (a1 : Int) : Option (Bool) := if a1 ≥ 0 then (if 0 ≤ a1 then (some ((Go.bits .and .u32 (shr .u32 a0 a1) 1) == 1)) else (none)) else (some false)
set_option maxHeartbeats 8000000 in
set_option maxRecDepth 100000 in
theorem enter_in.calls (a0 : Int) (a1 : Int) (r : Bool) (w : World) (h : enter_in.f a0 a1 = some r) :
    Calls Try.prog 58 #[.int .u32 a0, .int .i64 a1] w fun e w' => e = .returned (.bool r) ∧ Drawn0 w w' := by
  have H : (if a1 ≥ 0 then (if 0 ≤ a1 then (some ((Go.bits .and .u32 (shr .u32 a0 a1) 1) == 1)) else (none)) else (some false)) = some r := h
  clear h
  by_cases c3 : a1 ≥ 0
  · rw [if_pos c3] at H
    have c3b0 : decide (0 ≤ a1) = true := decide_eq_true c3
    clear c3
    by_cases c4 : 0 ≤ a1
    · rw [if_pos c4] at H
      have c4b0 := eq_true c4
      have c4b1 : decide (0 ≤ a1) = true := decide_eq_true c4
      clear c4
      obtain ⟨ji5, hji5⟩ : ∃ j_ : Int, (shr .u32 a0 a1) = j_ := ⟨_, rfl⟩
      replace H : (some ((Go.bits .and .u32 (ji5) 1) == 1)) = some r := by first | (rw [hji5] at H; exact H) | (simp only [hji5] at H ⊢; exact H)
      have hji5_ : (a0 / 2 ^ min a1.toNat 32) = ji5 := hji5
      have hji5z : a1 ≤ 32 → (a0 / 2 ^ a1.toNat) = ji5 := shr_small hji5
      obtain rfl := Option.some.inj H
      go_enter Try.func58, Try.ntmps58
      go_wp2
      go_ret
      exact ⟨by first | rfl | (simp; done) | (simp only [← hji5] <;> (first | rfl | simp)) | (simp [*]; done), by repeat (first | exact Drawn0.refl _ | apply Drawn0.step)⟩
    · rw [if_neg c4] at H
      exact absurd H (by simp)
  · rw [if_neg c3] at H
    have c3b0 : decide (0 ≤ a1) = false := decide_eq_false c3
    clear c3
    obtain rfl := Option.some.inj H
    go_enter Try.func58, Try.ntmps58
    go_wp2
    go_ret
    exact ⟨by first | rfl | (simp; done) | (simp [*]; done), by repeat (first | exact Drawn0.refl _ | apply Drawn0.step)⟩

end Go.Proofs.Ytnomeokicfpidaa.Q
-- printed by myprint.py: a program of this repo over the kit's print
namespace Go.Proofs.Ytnomeokicfpidaa.Q
open Go.RowKit Go.Proofs.YtnomeokicfpidaaW.PrintWords Go.Proofs.YtnomeokicfpidaaW.PrintLast Go.Proofs.YtnomeokicfpidaaW.PrintMore
attribute [local go_sem] max2_int min2_int max_two min_two max_three min_three max_four min_four   -- for this text's walks alone
set_option linter.unusedVariables false
set_option linter.unusedSimpArgs false

/-! ### enter_below: function 49 -/
def enter_below.l0 : Nat → Int → Int → List Int → Int → Int → List Int → List Int → Option (List Int)
  | 0, _, _, _, _, _, _, _ => none
  | k + 1, x1, x2, x7, x11, x12, x102000, x102001 => if x12 < x11 then (if x12 = x2 then (enter_below.l0 k x1 x2 x7 x11 (wrap64 (x12 + 1)) x102000 x102001) else ((enter_in.f x1 x12).bind fun t102 => (if t102 = true then ((shape_Under.f k x102000 x102001 x12 x2).bind fun t103 => (if t103 = true then (if x7.length < 17592186044416 then (enter_below.l0 k x1 x2 (x7 ++ [x12]) x11 (wrap64 (x12 + 1)) x102000 x102001) else (none)) else (enter_below.l0 k x1 x2 x7 x11 (wrap64 (x12 + 1)) x102000 x102001))) else (enter_below.l0 k x1 x2 x7 x11 (wrap64 (x12 + 1)) x102000 x102001)))) else (some x7)
def enter_below.f (k : Nat) (l0_0 : List Int) (l0_1 : List Int) (a1 : Int) (a2 : Int) : Option (List Int) := enter_below.l0 k a1 a2 ([] : List Int) (l0_0.length : Int) 0 l0_0 l0_1
theorem enter_below.mono_l : ∀ k, (∀ y0 y1 y2 y3 y4 y5 y6, LeO (enter_below.l0 k y0 y1 y2 y3 y4 y5 y6) (enter_below.l0 (k + 1) y0 y1 y2 y3 y4 y5 y6))
  | 0 => fun _ _ _ _ _ _ _ r h => by simp [enter_below.l0] at h
  | k + 1 => by
    have ih0 := enter_below.mono_l k
    · intro y0 y1 y2 y3 y4 y5 y6
      unfold enter_below.l0
      repeat' first
      | (with_reducible exact ih0 _ _ _ _ _ _ _)
      | (with_reducible exact shape_Under.mono _ _ _ _ _)
      | (with_reducible exact LeO.refl _)
      | (with_reducible exact LeO.none _)
      | (with_reducible refine LeO.ite ?_ ?_)
      | (with_reducible refine LeO.bind ?_ (fun _ => ?_))
      | exact ih0 _ _ _ _ _ _ _
      | exact shape_Under.mono _ _ _ _ _
      | exact LeO.none _
      | refine LeO.ite ?_ ?_
      | refine LeO.bind ?_ (fun _ => ?_)
theorem enter_below.mono : ∀ a0 a1 a2 a3 k, LeO (enter_below.f k a0 a1 a2 a3) (enter_below.f (k + 1) a0 a1 a2 a3) := by
  intro a0 a1 a2 a3 k
  have ih0 := enter_below.mono_l k
  unfold enter_below.f
  repeat' first
      | (with_reducible exact ih0 _ _ _ _ _ _ _)
      | (with_reducible exact shape_Under.mono _ _ _ _ _)
      | (with_reducible exact LeO.refl _)
      | (with_reducible exact LeO.none _)
      | (with_reducible refine LeO.ite ?_ ?_)
      | (with_reducible refine LeO.bind ?_ (fun _ => ?_))
      | exact ih0 _ _ _ _ _ _ _
      | exact shape_Under.mono _ _ _ _ _
      | exact LeO.none _
      | refine LeO.ite ?_ ?_
      | refine LeO.bind ?_ (fun _ => ?_)
set_option maxHeartbeats 8000000 in
set_option maxRecDepth 100000 in
theorem enter_below.calls (k : Nat) (A0_0 : Option Addr) (c0_0 : Nat) (l0_0 : List Int) (A0_1 : Option Addr) (c0_1 : Nat) (l0_1 : List Int) (a1 : Int) (a2 : Int) (r : List Int) (w : World) (hr0_0 : Kd.C (Kd.int .i64) w A0_0 l0_0.length l0_0) (hc0_0 : l0_0.length ≤ c0_0) (hr0_1 : Kd.C (Kd.int .i64) w A0_1 l0_1.length l0_1) (hc0_1 : l0_1.length ≤ c0_1) (h : enter_below.f k l0_0 l0_1 a1 a2 = some r) :
    Calls Try.prog 49 #[.agg #[.slice A0_0 l0_0.length c0_0, .slice A0_1 l0_1.length c0_1], .int .u32 a1, .int .i64 a2] w fun e w' => ∃ v0_ : Value, e = .returned (v0_) ∧ Kd.R (Kd.int .i64) 3 w' w.heap.size (fun _ => True) v0_ r ∧ Below w.heap.size w w' := by
  have hu24 := Try.underlying24
  have HR0_0 := Aside0.mk hr0_0
  have HC0_0 := Aside0.mk hc0_0
  clear hr0_0 hc0_0
  have HR0_1 := Aside0.mk hr0_1
  have HC0_1 := Aside0.mk hc0_1
  clear hr0_1 hc0_1
  have HB := Aside0.mk (Below.refl w.heap.size w)
  have H : (enter_below.l0 k a1 a2 ([] : List Int) (l0_0.length : Int) 0 l0_0 l0_1) = some r := h
  clear h
  have H' := Aside0.mk H
  clear H
  go_enter Try.func49, Try.ntmps49
  go_wp2_with (first | ((with_reducible refine gate_dst (N := 3) rfl ?_); refine box_event ?hg (N := 3) ?hd (cs := #[.slice A0_0 l0_0.length c0_0, .slice A0_1 l0_1.length c0_1]) (t := 24) ?hr ?_; (case hd => rfl); (case hg => rfl); (case hr => first | (go_simp; done) | (go_simp; rfl)); intro gb101 hg w4 hbox hb; have n0_ := Aside0.mk (below_step (by repeat (first | (with_reducible first | exact HB.out | apply below_alloc | apply pw_below_drewN | apply below_drew1) | exact HB.out)) hb); have n1_ := Aside0.mk (hbox); have n2_ := Aside0.mk ((by rw [hg]; exact (below_size (by repeat (first | (with_reducible first | exact HB.out | apply below_alloc | apply pw_below_drewN | apply below_drew1) | exact HB.out))) : w.heap.size ≤ gb101)); have n3_ := Aside0.mk ((by rw [hg]; exact (below_size (by repeat (first | (with_reducible first | exact HB.out | apply below_alloc | apply pw_below_drewN | apply below_drew1) | exact HB.out))) : w.heap.size ≤ gb101)); clear HB; have HB := n0_; have BK101 := n1_; have GW101 := n2_; have GE101 := n3_; clear n0_ n1_ n2_ n3_; clear hb hbox hg; have hcz5_0 : w4.cell? ⟨gb101, 0, none⟩ = some (.slice A0_0 l0_0.length c0_0) := (blk_cell BK101.out 0).trans rfl; have hcz5_1 : w4.cell? ⟨gb101, 1, none⟩ = some (.slice A0_1 l0_1.length c0_1) := (blk_cell BK101.out 1).trans rfl; have hfz5_0 := blk_frozen BK101.out 0; have hfz5_1 := blk_frozen BK101.out 1))
  go_loopg [7, 12] k (fun kq v7 v12 w' => ∃ (x7_1 : List Int) (x12_1 : Int), v12 = .int .i64 x12_1 ∧ Aside0 (enter_below.l0 kq a1 a2 x7_1 (l0_0.length : Int) x12_1 l0_0 l0_1 = some r) ∧ Aside0 (kq ≤ k) ∧ Aside0 (Kd.R (Kd.int .i64) 3 w' w.heap.size (fun _ => True) v7 x7_1) ∧ Aside0 (w'.heap[gb101]? = some (.cells #[(.slice A0_0 l0_0.length c0_0), (.slice A0_1 l0_1.length c0_1)] 24 (0, 0))) ∧ Aside0 (Below w.heap.size w w'))
  case atStart => exact ⟨(([] : List Int)), (0), (by first | rfl | (simp; done) | (simp [*]; done)), H', ⟨Nat.le_refl _⟩, ⟨by first | exact Kd.R_nil _ _ _ _ _ | exact Kd.N_nil _ _ _ _ _ | exact Kd.V_nil _ _ _ _ _ | exact Kd.Q_nil _ _ _ _ _ | exact Kd.S_nil _ _ _ _ _⟩, ⟨by (with_reducible repeat (first | refine blk_drewN ?_ _ | refine blk_drew ?_ | refine blk_alloc ?_ _)); exact BK101.out⟩, ⟨by repeat (first | (with_reducible first | exact HB.out | apply below_alloc | apply pw_below_drewN | apply below_drew1 | refine below_set ?_ GE101.out) | exact HB.out)⟩⟩
  case round =>
    clear H'
    try clear p2
    try clear c4
    try clear hcz5_0
    try clear hcz5_1
    try clear hfz5_0
    try clear hfz5_1
    obtain ⟨x7_1, x12_1, rfl, HA, HK1, HO_7, BK101, HB⟩ := hrel
    cases gk with
    | zero => exact absurd HA.out (by simp [enter_below.l0])
    | succ k1 =>
      have H := HA.out
      clear HA
      simp only [enter_below.l0] at H
      by_cases c6 : x12_1 < (l0_0.length : Int)
      · rw [if_pos c6] at H
        have c6b0 : decide (x12_1 < (l0_0.length : Int)) = true := decide_eq_true c6
        clear c6
        by_cases c7 : x12_1 = a2
        · rw [if_pos c7] at H
          have c7b0 : (x12_1 == a2) = true := beq_iff_eq.mpr c7
          have c7b1 : (x12_1 != a2) = false := bne_eq_false_iff_eq.mpr c7
          clear c7
          have H' := Aside0.mk H
          clear H
          go_wp2
          go_roundg k1
          case measure => have := HK1.out; omega
          case rel => exact ⟨(x7_1), (wrap64 (x12_1 + 1)), (by first | rfl | (simp; done) | (simp [*]; done)), H', ⟨by have := HK1.out; omega⟩, ⟨by (with_reducible repeat (first | apply Kd.R_alloc | apply Kd.R_drewN | apply Kd.R_drew)); exact HO_7.out⟩, ⟨by (with_reducible repeat (first | refine blk_drewN ?_ _ | refine blk_drew ?_ | refine blk_alloc ?_ _)); exact BK101.out⟩, ⟨by repeat (first | (with_reducible first | exact HB.out | apply below_alloc | apply pw_below_drewN | apply below_drew1 | refine below_set ?_ GE101.out) | exact HB.out)⟩⟩
        · rw [if_neg c7] at H
          have c7b0 : (x12_1 == a2) = false := beq_eq_false_iff_ne.mpr c7
          have c7b1 : (x12_1 != a2) = true := bne_iff_ne.mpr c7
          replace H := Option.bind_eq_some_iff.mp H
          obtain ⟨t102, A80, H⟩ := H
          replace H : (if t102 = true then ((shape_Under.f k1 l0_0 l0_1 x12_1 a2).bind fun t103 => (if t103 = true then (if x7_1.length < 17592186044416 then (enter_below.l0 k1 a1 a2 (x7_1 ++ [x12_1]) (l0_0.length : Int) (wrap64 (x12_1 + 1)) l0_0 l0_1) else (none)) else (enter_below.l0 k1 a1 a2 x7_1 (l0_0.length : Int) (wrap64 (x12_1 + 1)) l0_0 l0_1))) else (enter_below.l0 k1 a1 a2 x7_1 (l0_0.length : Int) (wrap64 (x12_1 + 1)) l0_0 l0_1)) = some r := H
          have A8 := Aside0.mk A80
          clear A80
          by_cases c9 : t102 = true
          · subst c9
            have H1 : ((shape_Under.f k1 l0_0 l0_1 x12_1 a2).bind fun t103 => (if t103 = true then (if x7_1.length < 17592186044416 then (enter_below.l0 k1 a1 a2 (x7_1 ++ [x12_1]) (l0_0.length : Int) (wrap64 (x12_1 + 1)) l0_0 l0_1) else (none)) else (enter_below.l0 k1 a1 a2 x7_1 (l0_0.length : Int) (wrap64 (x12_1 + 1)) l0_0 l0_1))) = some r := by rw [if_pos rfl] at H; exact H
            clear H
            have H := H1
            clear H1
            replace H := Option.bind_eq_some_iff.mp H
            obtain ⟨t103, A100, H⟩ := H
            replace H : (if t103 = true then (if x7_1.length < 17592186044416 then (enter_below.l0 k1 a1 a2 (x7_1 ++ [x12_1]) (l0_0.length : Int) (wrap64 (x12_1 + 1)) l0_0 l0_1) else (none)) else (enter_below.l0 k1 a1 a2 x7_1 (l0_0.length : Int) (wrap64 (x12_1 + 1)) l0_0 l0_1)) = some r := H
            have A10 := Aside0.mk A100
            clear A100
            by_cases c11 : t103 = true
            · subst c11
              have H1 : (if x7_1.length < 17592186044416 then (enter_below.l0 k1 a1 a2 (x7_1 ++ [x12_1]) (l0_0.length : Int) (wrap64 (x12_1 + 1)) l0_0 l0_1) else (none)) = some r := by rw [if_pos rfl] at H; exact H
              clear H
              have H := H1
              clear H1
              by_cases c12 : x7_1.length < 17592186044416
              · rw [if_pos c12] at H
                have LMc12 := Aside0.mk c12
                clear c12
                obtain ⟨y104, hy104⟩ : ∃ y_ : List Int, y_ = (x7_1 ++ [x12_1]) := ⟨_, rfl⟩
                replace H : (enter_below.l0 k1 a1 a2 y104 (l0_0.length : Int) (wrap64 (x12_1 + 1)) l0_0 l0_1) = some r := by first | (rw [hy104]; with_reducible exact H) | (have H2_ := (Option.bind_some _ _).symm.trans H; rw [hy104]; with_reducible exact H2_) | (have H2_ := (Option.bind_some _ _).symm.trans H; with_reducible exact H2_) | with_reducible exact H | (rw [hy104]; exact H) | exact H
                have Ny104 := Aside0.mk hy104
                clear hy104
                have H' := Aside0.mk H
                clear H
                go_wp2_with (first | (go_at_call 58; (with_reducible refine (enter_in.calls a1 x12_1 true _ A8.out).mono ?_); rintro e w' ⟨rfl, ⟨nd, rfl⟩⟩; have hcz13_0 : wr.cell? ⟨gb101, 0, none⟩ = some (.slice A0_0 l0_0.length c0_0) := (blk_cell BK101.out 0).trans rfl; have hcz13_1 : wr.cell? ⟨gb101, 1, none⟩ = some (.slice A0_1 l0_1.length c0_1) := (blk_cell BK101.out 1).trans rfl; have hfz13_0 := blk_frozen BK101.out 0; have hfz13_1 := blk_frozen BK101.out 1) | (go_at_call 27; (with_reducible refine (shape_Under.calls k1 _ _ l0_0 _ _ l0_1 x12_1 a2 true _ ?side1 ?side2 ?side3 ?side4 A10.out).mono ?_); (case side1 => repeat (first | exact (Kd.C_below HR0_0.out (by repeat (first | (with_reducible first | exact HB.out | apply below_alloc | apply pw_below_drewN | apply below_drew1 | refine below_set ?_ GE101.out) | exact HB.out))) | (with_reducible refine Kd.C_alloc ?_ _) | (with_reducible refine Kd.C_drewN ?_ _) | (with_reducible refine Kd.C_drew ?_))); (case side2 => exact HC0_0.out); (case side3 => repeat (first | exact (Kd.C_below HR0_1.out (by repeat (first | (with_reducible first | exact HB.out | apply below_alloc | apply pw_below_drewN | apply below_drew1 | refine below_set ?_ GE101.out) | exact HB.out))) | (with_reducible refine Kd.C_alloc ?_ _) | (with_reducible refine Kd.C_drewN ?_ _) | (with_reducible refine Kd.C_drew ?_))); (case side4 => exact HC0_1.out); rintro e w14 ⟨rfl, hb⟩; have n0_ := Aside0.mk (Kd.R_below (by (with_reducible repeat (first | apply Kd.R_alloc | apply Kd.R_drewN | apply Kd.R_drew)); exact HO_7.out) hb); have n1_ := Aside0.mk (blk_below (g := gb101) (o := .cells #[.slice A0_0 l0_0.length c0_0, .slice A0_1 l0_1.length c0_1] 24 (0, 0)) (by (with_reducible repeat (first | refine blk_drewN ?_ _ | refine blk_drew ?_ | refine blk_alloc ?_ _)); exact BK101.out) hb); have n2_ := Aside0.mk (below_step (by repeat (first | (with_reducible first | exact HB.out | apply below_alloc | apply pw_below_drewN | apply below_drew1 | refine below_set ?_ GE101.out) | exact HB.out)) hb); clear HO_7; clear BK101; clear HB; have HO_7 := n0_; have BK101 := n1_; have HB := n2_; clear n0_ n1_ n2_; (try clear hb); (try clear hb2); (try clear hk); (try clear hi)) | ((with_reducible refine gate_builtin (b := .append) (xs := #[.tmp 29, .tmp 31]) rfl ?_); at_builtin; refine Kd.R_append (Kd.int .i64) (w0 := w) w.heap.size rfl (.tmp 29) (.tmp 31) 22 3 (.int .i64 0) 8 rfl Try.underlying22 info3 rfl (by decide) (by omega) u7 x7_1 x12_1 [.int .i64 x12_1] (fun _ => True) (fun _ => False) rfl rfl ?aP (fun _ hk => hk.elim) ?aF ?aO ?aB ?aS ?aL ?_; (case aP => exact rfl); (case aB => exact (by repeat (first | (with_reducible first | exact HB.out | apply below_alloc | apply pw_below_drewN | apply below_drew1 | refine below_set ?_ GE101.out) | exact HB.out))); (case aF => exact (fun _ _ => trivial)); (case aO => exact (by (with_reducible repeat (first | apply Kd.R_alloc | apply Kd.R_drewN | apply Kd.R_drew)); exact HO_7.out)); (case aS => exact (below_size (by repeat (first | (with_reducible first | exact HB.out | apply below_alloc | apply pw_below_drewN | apply below_drew1 | refine below_set ?_ GE101.out) | exact HB.out)))); (case aL => have := LMc12.out; omega); intro v105 w15 ho hb hg hat; rw [← Ny104.out] at ho; have n0_ := Aside0.mk (blk_grown (g := gb101) (o := .cells #[.slice A0_0 l0_0.length c0_0, .slice A0_1 l0_1.length c0_1] 24 (0, 0)) (by (with_reducible repeat (first | refine blk_drewN ?_ _ | refine blk_drew ?_ | refine blk_alloc ?_ _)); exact BK101.out) hg (Kd.R_ne HO_7.out BK101.out (by decide))); have n1_ := Aside0.mk (hb); have n2_ := Aside0.mk (ho); clear BK101; clear HB; clear HO_7; have BK101 := n0_; have HB := n1_; have HO106 := n2_; clear n0_ n1_ n2_; clear ho hb hg hat))
                go_roundg k1
                case measure => have := HK1.out; omega
                case rel => exact ⟨(y104), (wrap64 (x12_1 + 1)), (by first | rfl | (simp; done) | (simp [*]; done)), H', ⟨by have := HK1.out; omega⟩, ⟨by (with_reducible repeat (first | apply Kd.R_alloc | apply Kd.R_drewN | apply Kd.R_drew)); exact HO106.out⟩, ⟨by (with_reducible repeat (first | refine blk_drewN ?_ _ | refine blk_drew ?_ | refine blk_alloc ?_ _)); exact BK101.out⟩, ⟨by repeat (first | (with_reducible first | exact HB.out | apply below_alloc | apply pw_below_drewN | apply below_drew1 | refine below_set ?_ GE101.out) | exact HB.out)⟩⟩
              · rw [if_neg c12] at H
                exact absurd H (by simp)
            · replace c11 := Bool.eq_false_iff.mpr c11
              subst c11
              have H1 : (enter_below.l0 k1 a1 a2 x7_1 (l0_0.length : Int) (wrap64 (x12_1 + 1)) l0_0 l0_1) = some r := by rw [if_neg (show ¬ (false = true) by decide)] at H; exact H
              clear H
              have H := H1
              clear H1
              have H' := Aside0.mk H
              clear H
              go_wp2_with (first | (go_at_call 58; (with_reducible refine (enter_in.calls a1 x12_1 true _ A8.out).mono ?_); rintro e w' ⟨rfl, ⟨nd, rfl⟩⟩; have hcz16_0 : wr.cell? ⟨gb101, 0, none⟩ = some (.slice A0_0 l0_0.length c0_0) := (blk_cell BK101.out 0).trans rfl; have hcz16_1 : wr.cell? ⟨gb101, 1, none⟩ = some (.slice A0_1 l0_1.length c0_1) := (blk_cell BK101.out 1).trans rfl; have hfz16_0 := blk_frozen BK101.out 0; have hfz16_1 := blk_frozen BK101.out 1) | (go_at_call 27; (with_reducible refine (shape_Under.calls k1 _ _ l0_0 _ _ l0_1 x12_1 a2 false _ ?side1 ?side2 ?side3 ?side4 A10.out).mono ?_); (case side1 => repeat (first | exact (Kd.C_below HR0_0.out (by repeat (first | (with_reducible first | exact HB.out | apply below_alloc | apply pw_below_drewN | apply below_drew1 | refine below_set ?_ GE101.out) | exact HB.out))) | (with_reducible refine Kd.C_alloc ?_ _) | (with_reducible refine Kd.C_drewN ?_ _) | (with_reducible refine Kd.C_drew ?_))); (case side2 => exact HC0_0.out); (case side3 => repeat (first | exact (Kd.C_below HR0_1.out (by repeat (first | (with_reducible first | exact HB.out | apply below_alloc | apply pw_below_drewN | apply below_drew1 | refine below_set ?_ GE101.out) | exact HB.out))) | (with_reducible refine Kd.C_alloc ?_ _) | (with_reducible refine Kd.C_drewN ?_ _) | (with_reducible refine Kd.C_drew ?_))); (case side4 => exact HC0_1.out); rintro e w17 ⟨rfl, hb⟩; have n0_ := Aside0.mk (Kd.R_below (by (with_reducible repeat (first | apply Kd.R_alloc | apply Kd.R_drewN | apply Kd.R_drew)); exact HO_7.out) hb); have n1_ := Aside0.mk (blk_below (g := gb101) (o := .cells #[.slice A0_0 l0_0.length c0_0, .slice A0_1 l0_1.length c0_1] 24 (0, 0)) (by (with_reducible repeat (first | refine blk_drewN ?_ _ | refine blk_drew ?_ | refine blk_alloc ?_ _)); exact BK101.out) hb); have n2_ := Aside0.mk (below_step (by repeat (first | (with_reducible first | exact HB.out | apply below_alloc | apply pw_below_drewN | apply below_drew1 | refine below_set ?_ GE101.out) | exact HB.out)) hb); clear HO_7; clear BK101; clear HB; have HO_7 := n0_; have BK101 := n1_; have HB := n2_; clear n0_ n1_ n2_; (try clear hb); (try clear hb2); (try clear hk); (try clear hi)))
              go_roundg k1
              case measure => have := HK1.out; omega
              case rel => exact ⟨(x7_1), (wrap64 (x12_1 + 1)), (by first | rfl | (simp; done) | (simp [*]; done)), H', ⟨by have := HK1.out; omega⟩, ⟨by (with_reducible repeat (first | apply Kd.R_alloc | apply Kd.R_drewN | apply Kd.R_drew)); exact HO_7.out⟩, ⟨by (with_reducible repeat (first | refine blk_drewN ?_ _ | refine blk_drew ?_ | refine blk_alloc ?_ _)); exact BK101.out⟩, ⟨by repeat (first | (with_reducible first | exact HB.out | apply below_alloc | apply pw_below_drewN | apply below_drew1 | refine below_set ?_ GE101.out) | exact HB.out)⟩⟩
          · replace c9 := Bool.eq_false_iff.mpr c9
            subst c9
            have H1 : (enter_below.l0 k1 a1 a2 x7_1 (l0_0.length : Int) (wrap64 (x12_1 + 1)) l0_0 l0_1) = some r := by rw [if_neg (show ¬ (false = true) by decide)] at H; exact H
            clear H
            have H := H1
            clear H1
            have H' := Aside0.mk H
            clear H
            go_wp2_with (first | (go_at_call 58; (with_reducible refine (enter_in.calls a1 x12_1 false _ A8.out).mono ?_); rintro e w' ⟨rfl, ⟨nd, rfl⟩⟩))
            go_roundg k1
            case measure => have := HK1.out; omega
            case rel => exact ⟨(x7_1), (wrap64 (x12_1 + 1)), (by first | rfl | (simp; done) | (simp [*]; done)), H', ⟨by have := HK1.out; omega⟩, ⟨by (with_reducible repeat (first | apply Kd.R_alloc | apply Kd.R_drewN | apply Kd.R_drew)); exact HO_7.out⟩, ⟨by (with_reducible repeat (first | refine blk_drewN ?_ _ | refine blk_drew ?_ | refine blk_alloc ?_ _)); exact BK101.out⟩, ⟨by repeat (first | (with_reducible first | exact HB.out | apply below_alloc | apply pw_below_drewN | apply below_drew1 | refine below_set ?_ GE101.out) | exact HB.out)⟩⟩
      · rw [if_neg c6] at H
        have c6b0 : decide (x12_1 < (l0_0.length : Int)) = false := decide_eq_false c6
        clear c6
        obtain rfl := Option.some.inj H
        go_wp2
        go_ret
        exact ⟨_, by first | rfl | (simp [errW_none, errW_some] <;> rfl) | (simp [*, errW_none, errW_some] <;> rfl), by (with_reducible repeat (first | apply Kd.R_alloc | apply Kd.R_drewN | apply Kd.R_drew)); exact HO_7.out, by repeat (first | (with_reducible first | exact HB.out | apply below_alloc | apply pw_below_drewN | apply below_drew1 | refine below_set ?_ GE101.out) | exact HB.out)⟩

end Go.Proofs.Ytnomeokicfpidaa.Q
/-
  The walk that enters states, by hand: a state that goes back. Conditions: a shape that is valid.
-/
namespace Go.Proofs.Ytnomeokicfpidaa.EW
open Go.RowKit Go.Proofs.YtnomeokicfpidaaW.PrintWords Go.Proofs.YtnomeokicfpidaaW.PrintLast Go.Proofs.YtnomeokicfpidaaW.PrintMore Go.Proofs.Ytnomeokicfpidaa.Q Go.Proofs.Ytnomeokicfpidaa.M
attribute [local go_sem] max2_int min2_int max_two min_two max_three min_three max_four min_four
set_option linter.unusedVariables false
set_option linter.unusedSimpArgs false
-- uses: shape_Initial.calls enter_below.calls
/-- What was in a state when it was left last. -/
def wasS (Q : List Int) (a : Int) : Int := if a < 0 then 0 else if a ≥ (Q.length : Int) then 0 else rd Q a

set_option maxHeartbeats 4000000 in
set_option maxRecDepth 100000 in
theorem was_calls {w0 : World} {sK sP : Value} {AQ : Option Addr} {cQ : Nat} {lQ : List Int} {g : Nat} (hQ : Kd.C (Kd.int .u32) w0 AQ lQ.length lQ) (hcQ : lQ.length ≤ cQ)
    (a : Int) (w : World) (v : Value) (out : List Int) (hW : WW w0 w g sK sP (.slice AQ lQ.length cQ) v out) :
    Calls Try.prog 60 #[.pointer (some ⟨g, 0, none⟩), .int .i64 a] w fun e w' => e = .returned (.int .u32 (wasS lQ a)) ∧ Drawn0 w w' := by
  have hu70 := Try.underlying70
  have hc2 : w.cell? ⟨g, 2, none⟩ = some (.slice AQ lQ.length cQ) := (blk_cell hW.blk 2).trans rfl
  have hb := hW.below
  clear hW
  have HQ := Aside0.mk hQ
  have HB := Aside0.mk hb
  clear hQ hb
  by_cases c1 : a < 0
  · have e : wasS lQ a = 0 := by unfold wasS; rw [if_pos c1]
    rw [e]
    have t1 : decide (a < 0) = true := decide_eq_true c1
    clear c1 e
    go_enter Try.func60, Try.ntmps60
    go_wp2
    repeat (go_quiet (fail); try go_wp2)
    go_ret
    exact ⟨rfl, by repeat (first | exact Drawn0.refl _ | apply Drawn0.step)⟩
  · by_cases c2 : a ≥ (lQ.length : Int)
    · have e : wasS lQ a = 0 := by unfold wasS; rw [if_neg c1, if_pos c2]
      rw [e]
      have t1 : decide (a < 0) = false := decide_eq_false c1
      have t2 : decide ((lQ.length : Int) ≤ a) = true := decide_eq_true c2
      clear c1 c2 e
      go_enter Try.func60, Try.ntmps60
      go_wp2
      repeat (go_quiet (fail); try go_wp2)
      go_ret
      exact ⟨rfl, by repeat (first | exact Drawn0.refl _ | apply Drawn0.step)⟩
    · have e : wasS lQ a = rd lQ a := by unfold wasS; rw [if_neg c1, if_neg c2]
      rw [e]
      have t1 : decide (a < 0) = false := decide_eq_false c1
      have t2 : decide ((lQ.length : Int) ≤ a) = false := decide_eq_false c2
      obtain ⟨ad, e', hx⟩ := Kd.at_int (Kd.C_below HQ.out HB.out) a (by omega) (by omega)
      subst e'
      have p0 := eq_true (show 0 ≤ a by omega)
      have p1 := eq_true (show a < (lQ.length : Int) by omega)
      clear c1 c2 e
      go_enter Try.func60, Try.ntmps60
      go_wp2
      repeat (go_quiet (fail); try go_wp2)
      go_ret
      exact ⟨rfl, by repeat (first | exact Drawn0.refl _ | apply Drawn0.step)⟩

/-- What a state that goes back enters: what was in it, deep; the one of its own that was in it; else its initial one. -/
def backR (K P : List Int) (F : Int → List Int) (l : List Int) (up : Int) (deep : Bool) : List Int :=
  if deep = true ∧ l ≠ [] then l else match l.find? (fun k => decide (rd P k = up) && decide (rd K k ≤ 2)) with
    | some k => F k
    | none => if 0 ≤ initial K P up then F (initial K P up) else []

theorem find_none {p : Int → Bool} {l : List Int} (h : ∀ j : Nat, j < l.length → p (l.getD j 0) = false) : l.find? p = none := by
  rw [List.find?_eq_none]
  intro x hx
  obtain ⟨j, hj, rfl⟩ := List.mem_iff_getElem.1 hx
  have := h j hj
  rw [List.getD_eq_getElem?_getD, List.getElem?_eq_getElem hj] at this
  simpa using this
theorem find_at {p : Int → Bool} : ∀ {l : List Int} {i : Nat}, i < l.length → p (l.getD i 0) = true → (∀ j : Nat, j < i → p (l.getD j 0) = false) → l.find? p = some (l.getD i 0)
  | [], i, hi, _, _ => by simp at hi
  | x :: l, 0, _, hp, _ => by
    have hp' : p x = true := hp
    rw [List.find?_cons, hp']; rfl
  | x :: l, i + 1, hi, hp, hpre => by
    have h0 : p x = false := hpre 0 (by omega)
    rw [List.find?_cons, h0]
    exact find_at (l := l) (i := i) (by simpa using hi) hp (fun j hj => hpre (j + 1) (by omega))

set_option maxHeartbeats 8000000 in
set_option maxRecDepth 100000 in
theorem back_calls {w0 : World} {AK AP AQ : Option Addr} {cK cP cQ : Nat} {lK lP lQ : List Int} {g : Nat}
    (hK : Kd.C (Kd.int .i64) w0 AK lK.length lK) (hcK : lK.length ≤ cK) (hP : Kd.C (Kd.int .i64) w0 AP lP.length lP) (hcP : lP.length ≤ cP) (hQ : Kd.C (Kd.int .u32) w0 AQ lQ.length lQ) (hcQ : lQ.length ≤ cQ)
    (hn : lP.length = lK.length) (h24 : lK.length ≤ 24) (up : Int) (deep : Bool) (l : List Int) (hlr : ∀ x ∈ l, 0 ≤ x ∧ x < lK.length) (hl24 : l.length ≤ 24) (hbel : ∃ k, enter_below.f k lK lP (wasS lQ up) up = some l)
    (F : Int → List Int) (w : World) (v : Value) (out : List Int)
    (hW : WW w0 w g (.slice AK lK.length cK) (.slice AP lP.length cP) (.slice AQ lQ.length cQ) v out) (hl : (out ++ backR lK lP F l up deep).length < 17592186044416)
    (IH : ∀ x : Int, 0 ≤ x → x < lK.length → (rd lK x ≤ 2) → ∀ (w : World) (v : Value), WW w0 w g (.slice AK lK.length cK) (.slice AP lP.length cP) (.slice AQ lQ.length cQ) v out → (out ++ F x).length < 17592186044416 → Calls Try.prog 52 #[.pointer (some ⟨g, 0, none⟩), .int .i64 x] w (Put w0 w g (.slice AK lK.length cK) (.slice AP lP.length cP) (.slice AQ lQ.length cQ) v (out ++ F x))) :
    Calls Try.prog 59 #[.pointer (some ⟨g, 0, none⟩), .int .i64 up, .bool deep] w (Put w0 w g (.slice AK lK.length cK) (.slice AP lP.length cP) (.slice AQ lQ.length cQ) v (out ++ backR lK lP F l up deep)) := by
  obtain ⟨kb, hkb⟩ := hbel
  have hu24 := Try.underlying24
  have hu70 := Try.underlying70
  have hc0 : w.cell? ⟨g, 0, none⟩ = some (.slice AK lK.length cK) := (blk_cell hW.blk 0).trans rfl
  have hc1 : w.cell? ⟨g, 1, none⟩ = some (.slice AP lP.length cP) := (blk_cell hW.blk 1).trans rfl
  have HKB := Aside0.mk hkb
  clear hkb
  have HN := Aside0.mk hn
  clear hn
  have hWd := hW.step (below_drew (Below.refl w.heap.size w))
  have hFd := Fr.of_below (below_drew (Below.refl w.heap.size w)) g v
  go_enter Try.func59, Try.ntmps59
  go_wp2
  go_region_held3 (fun w' => w'.cell? ⟨g, 0, none⟩ = some (.slice AK lK.length cK) ∧ w'.cell? ⟨g, 1, none⟩ = some (.slice AP lP.length cP) ∧ WW w0 w' g (.slice AK lK.length cK) (.slice AP lP.length cP) (.slice AQ lQ.length cQ) v out ∧ Fr w w' g v v)
    (first | exact ⟨(blk_cell hWn.blk 0).trans rfl, (blk_cell hWn.blk 1).trans rfl, hWn, hFn⟩ | exact ⟨by assumption, by assumption, by assumption, by assumption⟩)
    (first
      | (go_at_call 60; (with_reducible refine (was_calls (sK := .slice AK lK.length cK) (sP := .slice AP lP.length cP) hQ hcQ up _ v out ?w1).mono ?_); (case w1 => assumption); rintro e w5 ⟨rfl, hd⟩; have hWn := WW.step (by assumption) hd.below; have hFn := Fr.trans (by assumption) (Fr.of_below hd.below g v); clear hd)
      | (go_at_call 49; (with_reducible refine (enter_below.calls kb _ _ lK _ _ lP (wasS lQ up) up l _ ?b1 ?b2 ?b3 ?b4 HKB.out).mono ?_); (case b1 => exact Kd.C_below hK (WW.below (by assumption))); (case b2 => exact hcK); (case b3 => exact Kd.C_below hP (WW.below (by assumption))); (case b4 => exact hcP); rintro e w6 ⟨vl, rfl, hol, hbl⟩; have hWn := WW.step (by assumption) hbl; have hFn := Fr.trans (by assumption) (Fr.of_below hbl g v)))
  obtain ⟨Al, cl, el⟩ := Kd.R_slice hol
  subst el
  have HOL := Aside0.mk hol
  have HWN := Aside0.mk hWn
  have HFN := Aside0.mk hFn
  clear hol hWn hFn
  have HC0 := (show w6.cell? ⟨g, 0, none⟩ = some (.slice AK lK.length cK) from (blk_cell HWN.out.blk 0).trans rfl)
  have HC1 := (show w6.cell? ⟨g, 1, none⟩ = some (.slice AP lP.length cP) from (blk_cell HWN.out.blk 1).trans rfl)
  have HC3 := (show w6.cell? ⟨g, 3, none⟩ = some v from (blk_cell HWN.out.blk 3).trans rfl)
  by_cases hA : deep = true ∧ l ≠ []
  · obtain ⟨hd1, hd2⟩ := hA
    subst hd1
    have hb : backR lK lP F l up true = l := by unfold backR; rw [if_pos ⟨rfl, hd2⟩]
    rw [hb] at hl ⊢
    rw [List.length_append] at hl
    have HL := Aside0.mk hl
    obtain ⟨y, hy⟩ : ∃ y : List Int, y = out ++ l := ⟨_, rfl⟩
    rw [← hy]
    have HY := Aside0.mk hy
    have hpos : 0 < l.length := List.length_pos_iff.2 hd2
    have t1 : decide (0 < (l.length : Int)) = true := decide_eq_true (by omega)
    have t2 : decide (0 < l.length) = true := decide_eq_true hpos
    have HBK := Aside0.mk hb
    clear hl hy hb hd2 hpos IH
    go_wp2_with (first | ((with_reducible refine gate_builtin (b := .append) (xs := #[.tmp 29, .tmp 30]) rfl ?_); at_builtin; refine Kd.R_append_rows (Kd.int .i64) (w0 := w0) w0.heap.size rfl (.tmp 29) (.tmp 30) 22 3 (.int .i64 0) 8 rfl Try.underlying22 infoI rfl (by decide) (by omega) v out l _ _ _ (fun _ => True) (fun _ => False) rfl rfl ?aO ?aR (fun _ _ h => h) (fun _ h => h.elim) ?aF ?aB ?aS ?aL ?_; (case aO => exact HWN.out.own); (case aR => exact (Kd.R_reads' HOL.out).2.2); (case aF => exact (fun _ _ => trivial)); (case aB => exact HWN.out.below); (case aS => exact HWN.out.below.size); (case aL => have := HL.out; omega); intro v1 w1 ho hb hg hat; rw [← HY.out] at ho; obtain ⟨Av, cv, ev⟩ := Kd.R_slice ho; subst ev; obtain ⟨hb1, hW2, hF⟩ := HWN.out.push ho hb hg hat; clear ho hb hg hat; have hc3' : w1.cell? ⟨g, 3, none⟩ = some v := (blk_cell hb1 3).trans rfl; have hf3' := blk_frozen hb1 3; clear hb1; have HW2 := Aside0.mk hW2; clear hW2; have HF := Aside0.mk hF; clear hF))
    refine bodyPost_ret (v := .tuple #[]) (by simp [results, Try.results59, go_sem]) rfl ?_
    rw [HBK.out, ← HY.out]
    exact ⟨rfl, _, HW2.out, HFN.out.trans HF.out⟩
  · obtain ⟨p, hp⟩ : ∃ p : Int → Bool, p = fun k => decide (rd lP k = up) && decide (rd lK k ≤ 2) := ⟨_, rfl⟩
    have hb : backR lK lP F l up deep = match l.find? p with
      | some k => F k
      | none => if 0 ≤ initial lK lP up then F (initial lK lP up) else [] := by unfold backR; rw [if_neg hA, hp]
    have HBK := Aside0.mk hb
    have HPP := Aside0.mk hp
    have HL := Aside0.mk hl
    have HH := Aside0.mk IH
    have HLR := Aside0.mk hlr
    clear hb hp hl IH hlr
    have hor : deep = false ∨ l = [] := by
      cases deep with
      | false => exact .inl rfl
      | true => exact .inr (Classical.byContradiction fun h => hA ⟨rfl, h⟩)
    obtain ⟨kI, hkI⟩ := (Initial_f lK lP up HN.out (by have := HN.out; omega)).rounds
    have HKI := Aside0.mk hkI
    clear hkI hA
    obtain ⟨b0, hb0⟩ : ∃ b0 : Bool, decide (0 < l.length) = b0 := ⟨_, rfl⟩
    have hb0' : decide (0 < (l.length : Int)) = b0 := by rw [← hb0]; congr 1; exact propext (by omega)
    have hbf : b0 = false ∨ deep = false := by
      rcases hor with h | h
      · exact .inr h
      · left; rw [← hb0, h]; rfl
    clear hor
    have fin : ∀ (W : World), W = w6 → p = p → True := fun _ _ _ => trivial
    clear fin
    obtain ⟨b1, hb1⟩ : ∃ b1 : Bool, b1 = false ∧ (b0 = false ∨ (b0 = true ∧ deep = false)) := ⟨false, rfl, by cases b0 <;> simp_all⟩
    rcases hb1.2 with hz | ⟨hz, hz'⟩
    all_goals
      first | subst hz' | skip
      subst hz
      clear hb1 hbf
      go_wp2
      go_loopg [8, 36] l.length (fun kq v8 v36 w' => ∃ (xi : Int), v36 = .int .i64 xi ∧ Aside0 (w' = w6 ∧ 0 ≤ xi ∧ xi + kq = l.length ∧ ∀ j : Nat, j < xi.toNat → p (l.getD j 0) = false))
      case atStart => exact ⟨0, rfl, ⟨rfl, by omega, by omega, fun j hj => by simp at hj⟩⟩
      case round =>
        obtain ⟨xi, rfl, HX⟩ := hrel
        obtain ⟨ew, hx0, hxk, hpre⟩ := HX.out
        subst ew
        have HPRE := Aside0.mk hpre
        clear hpre HX
        cases gk with
        | zero =>
          have c1 : decide (xi < (l.length : Int)) = false := decide_eq_false (by omega)
          have hnone : l.find? p = none := find_none (fun j hj => HPRE.out j (by omega))
          obtain ⟨x, hx⟩ : ∃ x, initial lK lP up = x := ⟨_, rfl⟩
          have hbx := HBK.out
          rw [hnone] at hbx
          simp only [hx] at hbx
          have HI := Aside0.mk hx
          clear hnone hx0 hxk
          by_cases hxp : 0 ≤ x
          · rw [if_pos hxp] at hbx
            have HBX := Aside0.mk hbx
            have tx : decide (0 ≤ x) = true := decide_eq_true hxp
            have hsol : 0 ≤ x ∧ x < lK.length ∧ rd lK x ≤ 2 := by
              rcases initial_cases lK lP up with h | ⟨h, h'⟩
              · rw [HI.out] at h; omega
              · rw [HI.out] at h h'
                have := kids_in HN.out up x h
                have := solidB_iff.1 h'
                exact ⟨by omega, by omega, by omega⟩
            have HS := Aside0.mk hsol
            have hlx : (out ++ F x).length < 17592186044416 := by rw [← hbx]; exact HL.out
            have HLX := Aside0.mk hlx
            clear hbx hx hxp hsol hlx
            go_wp2_with (first | (go_at_call 30; (with_reducible refine (shape_Initial.calls kI _ _ lK _ _ lP up _ _ ?s1 ?s2 ?s3 ?s4 HKI.out).mono ?_); (case s1 => exact Kd.C_below hK HWN.out.below); (case s2 => exact hcK); (case s3 => exact Kd.C_below hP HWN.out.below); (case s4 => exact hcP); rintro e w3 ⟨rfl, hb3⟩; rw [HI.out]; have HB3 := Aside0.mk hb3; clear hb3) | (go_at_call 52; (with_reducible refine (HH.out x HS.out.1 HS.out.2.1 HS.out.2.2 w3 _ (HWN.out.step HB3.out) HLX.out).mono ?_); rintro e w4 ⟨rfl, v', hW4, hF4⟩))
            go_end0
            rw [HBX.out]
            exact ⟨rfl, v', hW4, (HFN.out.trans (Fr.of_below HB3.out g _)).trans hF4⟩
          · rw [if_neg hxp] at hbx
            have HBX := Aside0.mk hbx
            have tx : decide (0 ≤ x) = false := decide_eq_false hxp
            clear hbx hx hxp
            go_wp2_with (first | (go_at_call 30; (with_reducible refine (shape_Initial.calls kI _ _ lK _ _ lP up _ _ ?s1 ?s2 ?s3 ?s4 HKI.out).mono ?_); (case s1 => exact Kd.C_below hK HWN.out.below); (case s2 => exact hcK); (case s3 => exact Kd.C_below hP HWN.out.below); (case s4 => exact hcP); rintro e w3 ⟨rfl, hb3⟩; rw [HI.out]; have HB3 := Aside0.mk hb3; clear hb3))
            go_end0
            rw [HBX.out, List.append_nil]
            exact ⟨rfl, v, HWN.out.step HB3.out, HFN.out.trans (Fr.of_below HB3.out g _)⟩
        | succ k1 =>
          have hlt : xi < (l.length : Int) := by omega
          have c2 : decide (xi < (l.length : Int)) = true := decide_eq_true hlt
          have c0 := eq_true hx0
          have c1 := eq_true hlt
          obtain ⟨adl, el, hxl⟩ := Kd.at_int (Kd.R_reads' HOL.out).2.2 xi hx0 (by omega)
          subst el
          have hget : rd l xi = l.getD xi.toNat 0 := rfl
          have hmem : rd l xi ∈ l := by
            rw [hget, List.getD_eq_getElem?_getD, List.getElem?_eq_getElem (by omega)]; exact List.getElem_mem _
          obtain ⟨x, hx⟩ : ∃ x, rd l xi = x := ⟨_, rfl⟩
          rw [hx] at hxl hmem hget
          obtain ⟨r0, r1⟩ := HLR.out x hmem
          obtain ⟨adK, eK, hxK⟩ := Kd.at_int (Kd.C_below hK HWN.out.below) x r0 (by omega)
          obtain ⟨adP, eP, hxP⟩ := Kd.at_int (Kd.C_below hP HWN.out.below) x r0 (by have := HN.out; omega)
          subst eK
          subst eP
          have q0 := eq_true r0
          have q1 := eq_true r1
          have q2 := eq_true (show x < (lP.length : Int) by have := HN.out; omega)
          have HX := Aside0.mk hx
          have HG := Aside0.mk hget
          have HR := Aside0.mk (And.intro r0 r1)
          have HXK := Aside0.mk (And.intro hx0 hxk)
          clear hx hget hmem hlt r0 r1 hx0 hxk
          have hw : wrap64 (xi + 1) = xi + 1 := by have := HXK.out; exact w64 (by omega) (by omega)
          have HWR := Aside0.mk hw
          clear hw
          by_cases hpx : p x = true
          · have hpp := hpx
            rw [HPP.out] at hpp
            simp only [Bool.and_eq_true, decide_eq_true_eq] at hpp
            have tP : (rd lP x == up) = true := beq_iff_eq.mpr hpp.1
            have tK : decide (rd lK x ≤ 2) = true := decide_eq_true hpp.2
            have hfind : l.find? p = some x := by
              have := HXK.out
              rw [HG.out]
              exact find_at (by omega) (by rw [← HG.out]; exact hpx) HPRE.out
            have hbx := HBK.out
            rw [hfind] at hbx
            have HBX := Aside0.mk hbx
            have hlx : (out ++ F x).length < 17592186044416 := by have := HL.out; rw [HBK.out, hfind] at this; exact this
            have HLX := Aside0.mk hlx
            have HS := Aside0.mk hpp.2
            clear hpp hpx hfind hbx hlx
            go_wp2_with (first | (go_at_call 52; (with_reducible refine (HH.out x HR.out.1 HR.out.2 HS.out _ _ HWN.out HLX.out).mono ?_); rintro e w4 ⟨rfl, v', hW4, hF4⟩))
            refine bodyPost_ret (v := .tuple #[]) (by simp [results, Try.results59, go_sem]) rfl ?_
            rw [HBX.out]
            exact ⟨rfl, v', hW4, HFN.out.trans hF4⟩
          · have hpf := eq_false_of_ne_true hpx
            have hnext : ∀ j : Nat, j < (xi + 1).toNat → p (l.getD j 0) = false := by
              intro j hj
              have := HXK.out
              by_cases e : j = xi.toNat
              · rw [e, ← HG.out]; exact hpf
              · exact HPRE.out j (by omega)
            have HNX := Aside0.mk hnext
            have hpp := hpf
            rw [HPP.out] at hpp
            simp only [Bool.and_eq_false_iff, decide_eq_false_iff_not] at hpp
            clear hpx hpf hnext
            by_cases hP1 : rd lP x = up
            · have tP : (rd lP x == up) = true := beq_iff_eq.mpr hP1
              have tK : decide (rd lK x ≤ 2) = false := decide_eq_false (by rcases hpp with h | h; · exact absurd hP1 h
                                                                            · exact h)
              clear hpp hP1
              go_wp2
              go_roundg k1
              case measure => have := HXK.out; omega
              case rel => exact ⟨wrap64 (xi + 1), (by first | rfl | (simp; done) | (simp [*]; done)), ⟨rfl, by rw [HWR.out]; have := HXK.out; omega, by rw [HWR.out]; have := HXK.out; omega, by rw [HWR.out]; exact HNX.out⟩⟩
            · have tP : (rd lP x == up) = false := beq_eq_false_iff_ne.mpr hP1
              clear hpp hP1
              go_wp2
              go_roundg k1
              case measure => have := HXK.out; omega
              case rel => exact ⟨wrap64 (xi + 1), (by first | rfl | (simp; done) | (simp [*]; done)), ⟨rfl, by rw [HWR.out]; have := HXK.out; omega, by rw [HWR.out]; have := HXK.out; omega, by rw [HWR.out]; exact HNX.out⟩⟩
end Go.Proofs.Ytnomeokicfpidaa.EW
