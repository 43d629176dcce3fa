-- merged by pack.py out of: YtnomeokicfpidaaMth YtnomeokicfpidaaShp YtnomeokicfpidaaTree YtnomeokicfpidaaShpR YtnomeokicfpidaaKeep YtnomeokicfpidaaOf YtnomeokicfpidaaBits YtnomeokicfpidaaProp YtnomeokicfpidaaConfs YtnomeokicfpidaaConfs2
import Derived.Lib.BitFns
import Derived.Test.YtnomeokicfpidaaWMore
import Derived.Test.YtnomeokicfpidaaWNEv
import Derived.Test.YtnomeokicfpidaaKShapeConfigs24
import Derived.Test.YtnomeokicfpidaaKShapeConfigs26
import Derived.Test.YtnomeokicfpidaaKShapeConfigs27
import Derived.Test.YtnomeokicfpidaaKShapeConfigs29
import Derived.Test.YtnomeokicfpidaaKShapeConfigs30
import Derived.Test.YtnomeokicfpidaaKShapeConfigs31
import Derived.Test.YtnomeokicfpidaaKShapeConfigs32
import Derived.Laws.BitsLemmas
/-
  Plain lemmas: numbers and lists as the printed functions spell them. Conditions: none beyond each lemma's own.
-/
namespace Go.Proofs.Ytnomeokicfpidaa.M
open Go.RowKit Go.Proofs.YtnomeokicfpidaaW.PrintWords Go.Proofs.YtnomeokicfpidaaW.PrintLast Go.Proofs.YtnomeokicfpidaaW.PrintMore
set_option linter.unusedVariables false

theorem w64 {x : Int} (h0 : -9223372036854775808 ≤ x) (h1 : x ≤ 9223372036854775807) : wrap64 x = x := by unfold wrap64; omega
theorem w1 (i : Nat) (h : i < 4611686018427387904) : wrap64 ((i : Int) + 1) = ((i + 1 : Nat) : Int) := by rw [w64 (by omega) (by omega)]; omega
theorem rd_nat (xs : List Int) (i : Nat) : rd xs (i : Int) = xs.getD i 0 := by simp [rd]
theorem mn_eq (a b : Int) : mn a b = min a b := by unfold mn; split <;> omega
theorem mx_eq (a b : Int) : mx a b = max a b := by unfold mx; split <;> omega

/-- One round more, nothing asked. -/
theorem Ev.st {α : Type} {g f : Nat → Option α} {r : α} (k : Ev f r) (h : ∀ k, g (k + 1) = f k) : Ev g r := Ev.step h k
theorem Ev.ret {α : Type} {g : Nat → Option α} {r : α} (h : ∀ k, g (k + 1) = some r) : Ev g r := Ev.step (f := fun _ => some r) h (Ev.now r)
theorem Ev.cg {α : Type} {g f : Nat → Option α} {r : α} (k : Ev f r) (h : ∀ k, g k = f k) : Ev g r := Ev.congr h k
theorem Ev.bd {α β : Type} {g : Nat → Option α} {f : Nat → α → Option β} {a : α} {r : β} (h : Ev g a) (k : Ev (fun n => f n a) r) : Ev (fun n => (g n).bind (fun x => f n x)) r := Ev.bind h k
theorem Ev.som {α β : Type} {f : Nat → α → Option β} {a : α} {r : β} (k : Ev (fun n => f n a) r) : Ev (fun n => (some a).bind (fun x => f n x)) r := k
theorem Ev.pos {α : Type} {c : Prop} [Decidable c] {f g : Nat → Option α} {r : α} (h : c) (k : Ev f r) : Ev (fun n => if c then f n else g n) r := by simpa [h] using k
theorem Ev.neg {α : Type} {c : Prop} [Decidable c] {f g : Nat → Option α} {r : α} (h : ¬ c) (k : Ev g r) : Ev (fun n => if c then f n else g n) r := by simpa [h] using k
theorem Ev.ite {α : Type} {c : Prop} [Decidable c] {f g : Nat → Option α} {r s : α} (k : c → Ev f r) (l : ¬ c → Ev g s) : Ev (fun n => if c then f n else g n) (if c then r else s) := by
  by_cases h : c
  · simpa [h] using k h
  · simpa [h] using l h
theorem Ev.iff {α : Type} {c : Prop} [Decidable c] {f g : Nat → Option α} {r : α} (k : c → Ev f r) (l : ¬ c → Ev g r) : Ev (fun n => if c then f n else g n) r := by
  by_cases h : c
  · simpa [h] using k h
  · simpa [h] using l h
theorem Ev.val {α : Type} {g : Nat → Option α} {r s : α} (h : Ev g r) (e : r = s) : Ev g s := e ▸ h
theorem Ev.un {α : Type} {g : Nat → Option α} {r s : α} (h : Ev g r) (h' : Ev g s) : r = s := by
  obtain ⟨K, h⟩ := h
  obtain ⟨L, h'⟩ := h'
  have a := h (max K L) (Nat.le_max_left _ _)
  have b := h' (max K L) (Nat.le_max_right _ _)
  rw [a] at b; exact Option.some.inj b

theorem len_le {xs : List Int} {h : xs.length * 8 ≤ 140737488351232} : xs.length ≤ 17592186043904 := by omega
end Go.Proofs.Ytnomeokicfpidaa.M
/-
  What the printed functions of the packages shape and imprimaturref06 (shapes) answer, in plain words. Conditions: none beyond each lemma's own.
-/
namespace Go.Proofs.Ytnomeokicfpidaa.M
open Go.RowKit Go.Proofs.YtnomeokicfpidaaW.PrintWords Go.Proofs.YtnomeokicfpidaaW.PrintLast Go.Proofs.YtnomeokicfpidaaW.PrintMore Go.Proofs.Ytnomeokicfpidaa.Q
set_option linter.unusedVariables false

def solidB (k : Int) : Bool := k == 1 || k == 2
def kidsFrom (P : List Int) (at_ : Int) (i d : Nat) : List Int := ((List.range' i d).filter (fun j => decide (P.getD j 0 = at_))).map (fun j : Nat => (j : Int))
def kids (P : List Int) (at_ : Int) : List Int := kidsFrom P at_ 0 P.length

theorem kidsFrom_succ (P : List Int) (a : Int) (i d : Nat) : kidsFrom P a i (d + 1) = if P.getD i 0 = a then (i : Int) :: kidsFrom P a (i + 1) d else kidsFrom P a (i + 1) d := by
  unfold kidsFrom
  rw [List.range'_succ, List.filter_cons]
  by_cases h : P.getD i 0 = a
  · rw [if_pos h, if_pos (decide_eq_true h)]; rfl
  · rw [if_neg h, if_neg (by rw [decide_eq_false h]; simp)]
theorem solidB_iff {k : Int} : solidB k = true ↔ k = 1 ∨ k = 2 := by unfold solidB; simp
theorem kids_len (P : List Int) (a : Int) : (kids P a).length ≤ P.length := by
  unfold kids kidsFrom
  rw [List.length_map]
  exact Nat.le_trans (List.length_filter_le _ _) (by simp)
theorem mem_kids {P : List Int} {a x : Int} : x ∈ kids P a ↔ ∃ j : Nat, x = j ∧ j < P.length ∧ P.getD j 0 = a := by
  unfold kids kidsFrom
  constructor
  · intro h
    obtain ⟨j, hj, rfl⟩ := List.mem_map.1 h
    obtain ⟨h1, h2⟩ := List.mem_filter.1 hj
    rw [List.mem_range'_1] at h1
    exact ⟨j, rfl, by omega, by simpa using h2⟩
  · rintro ⟨j, rfl, h1, h2⟩
    exact List.mem_map.2 ⟨j, List.mem_filter.2 ⟨List.mem_range'_1.2 ⟨by omega, by omega⟩, by simpa using h2⟩, rfl⟩

theorem solid_f (a : Int) : shape_solid.f a = some (solidB a) := by
  unfold shape_solid.f solidB
  by_cases h : a = 1
  · simp [h]
  · rw [if_neg h]; simp [h]

theorem Kids_l0 (a : Int) (P : List Int) (hP : P.length < 1099511627776) : ∀ (d i : Nat) (acc : List Int), i + d = P.length → acc.length ≤ i →
    Ev (fun k => shape_Kids.l0 k a acc P (P.length : Int) (i : Int)) (acc ++ kidsFrom P a i d) := by
  intro d
  induction d with
  | zero =>
    intro i acc hi ha
    refine Ev.ret (fun k => ?_)
    simp only [shape_Kids.l0]
    rw [if_neg (by omega)]
    simp [kidsFrom]
  | succ d ih =>
    intro i acc hi ha
    rw [kidsFrom_succ]
    by_cases hp : P.getD i 0 = a
    · rw [if_pos hp]
      refine Ev.st (Ev.val (ih (i + 1) (acc ++ [(i : Int)]) (by omega) (by simp; omega)) (by simp)) (fun k => ?_)
      simp only [shape_Kids.l0]
      rw [if_pos (by omega), if_pos (by omega), if_pos (by omega), rd_nat, if_pos hp, if_pos (by omega), w1 i (by omega)]
    · rw [if_neg hp]
      refine Ev.st (ih (i + 1) acc (by omega) (by omega)) (fun k => ?_)
      simp only [shape_Kids.l0]
      rw [if_pos (by omega), if_pos (by omega), if_pos (by omega), rd_nat, if_neg hp, w1 i (by omega)]
theorem Kids_f (K P : List Int) (a : Int) (hP : P.length < 1099511627776) : Ev (fun k => shape_Kids.f k K P a) (kids P a) := by
  have h := Kids_l0 a P hP P.length 0 [] (by omega) (by simp)
  simpa [shape_Kids.f, kids] using h

theorem rKids_l0 (a : Int) (K P : List Int) (hP : P.length < 1099511627776) : ∀ (d i : Nat) (acc : List Int), i + d = P.length → acc.length ≤ i →
    Ev (fun k => imprimaturref06_Shape_Kids.l0 k a acc (P.length : Int) (i : Int) K P) (acc ++ kidsFrom P a i d) := by
  intro d
  induction d with
  | zero =>
    intro i acc hi ha
    refine Ev.ret (fun k => ?_)
    simp only [imprimaturref06_Shape_Kids.l0]
    rw [if_neg (by omega)]
    simp [kidsFrom]
  | succ d ih =>
    intro i acc hi ha
    rw [kidsFrom_succ]
    by_cases hp : P.getD i 0 = a
    · rw [if_pos hp]
      refine Ev.st (Ev.val (ih (i + 1) (acc ++ [(i : Int)]) (by omega) (by simp; omega)) (by simp)) (fun k => ?_)
      simp only [imprimaturref06_Shape_Kids.l0]
      rw [if_pos (by omega), if_pos (by omega), if_pos (by omega), rd_nat, if_pos hp, if_pos (by omega), w1 i (by omega)]
    · rw [if_neg hp]
      refine Ev.st (ih (i + 1) acc (by omega) (by omega)) (fun k => ?_)
      simp only [imprimaturref06_Shape_Kids.l0]
      rw [if_pos (by omega), if_pos (by omega), if_pos (by omega), rd_nat, if_neg hp, w1 i (by omega)]
theorem rKids_f (K P : List Int) (a : Int) (hP : P.length < 1099511627776) : Ev (fun k => imprimaturref06_Shape_Kids.f k K P a) (kids P a) := by
  have h := rKids_l0 a K P hP P.length 0 [] (by omega) (by simp)
  simpa [imprimaturref06_Shape_Kids.f, kids] using h

/-- The first of a list of states that is solid; -1: none. -/
def firstSolid (K : List Int) : List Int → Int
  | [] => -1
  | x :: xs => if solidB (rd K x) = true then x else firstSolid K xs
def initial (K P : List Int) (a : Int) : Int := firstSolid K (kids P a)

theorem Initial_l0 (K P : List Int) (L : List Int) (hL : ∀ x ∈ L, 0 ≤ x ∧ x < (K.length : Int)) (hl : L.length < 1099511627776) : ∀ (d i : Nat), i + d = L.length →
    Ev (fun k => shape_Initial.l0 k L (L.length : Int) (i : Int) K P) (firstSolid K (L.drop i)) := by
  intro d
  induction d with
  | zero =>
    intro i hi
    refine Ev.ret (fun k => ?_)
    simp only [shape_Initial.l0]
    rw [if_neg (by omega), List.drop_of_length_le (by omega)]; rfl
  | succ d ih =>
    intro i hi
    have hd : L.drop i = L.getD i 0 :: L.drop (i + 1) := by
      rw [List.drop_eq_getElem_cons (by omega), List.getD_eq_getElem?_getD, List.getElem?_eq_getElem (by omega)]; rfl
    have hm : L.getD i 0 ∈ L := by rw [List.getD_eq_getElem?_getD, List.getElem?_eq_getElem (by omega)]; exact List.getElem_mem _
    have hb := hL _ hm
    rw [hd, firstSolid]
    by_cases hs : solidB (rd K (L.getD i 0)) = true
    · refine Ev.ret (fun k => ?_)
      simp only [shape_Initial.l0]
      rw [if_pos (by omega), if_pos (by omega), if_pos (by omega), rd_nat, if_pos hb.1, if_pos hb.2, solid_f, Option.bind_some, if_pos hs, if_pos hs]
    · rw [if_neg hs]
      refine Ev.st (ih (i + 1) (by omega)) (fun k => ?_)
      simp only [shape_Initial.l0]
      rw [if_pos (by omega), if_pos (by omega), if_pos (by omega), rd_nat, if_pos hb.1, if_pos hb.2, solid_f, Option.bind_some, if_neg hs, w1 i (by omega)]
theorem kids_in {K P : List Int} (hn : P.length = K.length) (a : Int) : ∀ x ∈ kids P a, 0 ≤ x ∧ x < (K.length : Int) := by
  intro x hx
  obtain ⟨j, rfl, h1, _⟩ := mem_kids.1 hx
  omega
theorem Initial_f (K P : List Int) (a : Int) (hn : P.length = K.length) (hP : P.length < 1099511627776) : Ev (fun k => shape_Initial.f k K P a) (initial K P a) := by
  unfold shape_Initial.f
  refine Ev.bd (Kids_f K P a hP) ?_
  have h := Initial_l0 K P (kids P a) (kids_in hn a) (Nat.lt_of_le_of_lt (kids_len P a) hP) (kids P a).length 0 (by omega)
  simpa [initial] using h

theorem rInitial_l0 (K P : List Int) (L : List Int) (hL : ∀ x ∈ L, 0 ≤ x ∧ x < (K.length : Int)) (hK : ∀ x ∈ L, 1 ≤ rd K x) (hl : L.length < 1099511627776) : ∀ (d i : Nat), i + d = L.length →
    Ev (fun k => imprimaturref06_Shape_Initial.l0 k L (L.length : Int) (i : Int) K P) (firstSolid K (L.drop i)) := by
  intro d
  induction d with
  | zero =>
    intro i hi
    refine Ev.ret (fun k => ?_)
    simp only [imprimaturref06_Shape_Initial.l0]
    rw [if_neg (by omega), List.drop_of_length_le (by omega)]; rfl
  | succ d ih =>
    intro i hi
    have hd : L.drop i = L.getD i 0 :: L.drop (i + 1) := by
      rw [List.drop_eq_getElem_cons (by omega), List.getD_eq_getElem?_getD, List.getElem?_eq_getElem (by omega)]; rfl
    have hm : L.getD i 0 ∈ L := by rw [List.getD_eq_getElem?_getD, List.getElem?_eq_getElem (by omega)]; exact List.getElem_mem _
    have hb := hL _ hm
    have h1 := hK _ hm
    rw [hd, firstSolid]
    by_cases hs : solidB (rd K (L.getD i 0)) = true
    · have hs' : rd K (L.getD i 0) ≤ 2 := by have := solidB_iff.1 hs; omega
      refine Ev.ret (fun k => ?_)
      simp only [imprimaturref06_Shape_Initial.l0]
      rw [if_pos (by omega), if_pos (by omega), if_pos (by omega), rd_nat, if_pos hb.1, if_pos hb.2, if_pos hs', if_pos hs]
    · have hs' : ¬ rd K (L.getD i 0) ≤ 2 := fun h => hs (solidB_iff.2 (by omega))
      rw [if_neg hs]
      refine Ev.st (ih (i + 1) (by omega)) (fun k => ?_)
      simp only [imprimaturref06_Shape_Initial.l0]
      rw [if_pos (by omega), if_pos (by omega), if_pos (by omega), rd_nat, if_pos hb.1, if_pos hb.2, if_neg hs', w1 i (by omega)]
theorem rInitial_f (K P : List Int) (a : Int) (hn : P.length = K.length) (hK : ∀ j : Nat, j < K.length → 1 ≤ K.getD j 0) (hP : P.length < 1099511627776) : Ev (fun k => imprimaturref06_Shape_Initial.f k K P a) (initial K P a) := by
  unfold imprimaturref06_Shape_Initial.f
  refine Ev.bd (rKids_f K P a hP) ?_
  have h := rInitial_l0 K P (kids P a) (kids_in hn a) (fun x hx => by obtain ⟨j, rfl, h1, _⟩ := mem_kids.1 hx; rw [rd_nat]; exact hK j (by omega)) (Nat.lt_of_le_of_lt (kids_len P a) hP) (kids P a).length 0 (by omega)
  simpa [initial] using h

/-- A state by itself. -/
def okS (K P : List Int) (i : Nat) : Bool :=
  decide (1 ≤ K.getD i 0) && (decide (K.getD i 0 ≤ 4) && (decide (-1 ≤ P.getD i 0) && (decide (P.getD i 0 < i) &&
    (if P.getD i 0 = -1 then solidB (K.getD i 0) else solidB (rd K (P.getD i 0)) && (solidB (K.getD i 0) || rd K (P.getD i 0) == 1)))))
/-- What is composed has a first state. -/
def compB (K P : List Int) (a : Int) : Bool := (a != -1 && (kids P a).isEmpty) || decide (0 ≤ initial K P a)
def compsB (K P : List Int) : Bool := compB K P (-1) && (List.range' 0 K.length).all (fun j => compB K P (j : Int))
def validB (K P : List Int) : Bool := decide (1 ≤ K.length ∧ K.length ≤ 24 ∧ P.length = K.length) && ((List.range' 0 K.length).all (okS K P) && compsB K P)

theorem Valid_l1 (K P : List Int) (hn : P.length = K.length) (h24 : K.length ≤ 24) : ∀ (d i : Nat), i + d = K.length →
    Ev (fun k => shape_Valid.l1 k (K.length : Int) (i : Int) K P) ((List.range' i d).all (fun j => compB K P (j : Int))) := by
  intro d
  induction d with
  | zero =>
    intro i hi
    refine Ev.ret (fun k => ?_)
    simp only [shape_Valid.l1]
    rw [if_neg (by omega)]; simp
  | succ d ih =>
    intro i hi
    rw [List.range'_succ, List.all_cons]
    refine Ev.st (f := fun k => (shape_Kids.f k K P (i : Int)).bind fun t => if (t.length : Int) > 0 then (shape_Initial.f k K P (i : Int)).bind fun t2 => (if t2 < 0 then some false else shape_Valid.l1 k (K.length : Int) (wrap64 ((i : Int) + 1)) K P) else shape_Valid.l1 k (K.length : Int) (wrap64 ((i : Int) + 1)) K P) ?_ (fun k => ?_)
    · refine Ev.bd (Kids_f K P _ (by omega)) ?_
      rw [w1 i (by omega)]
      have hc : compB K P (i : Int) = ((kids P (i : Int)).isEmpty || decide (0 ≤ initial K P (i : Int))) := by
        unfold compB; rw [show ((i : Int) != -1) = true from bne_iff_ne.mpr (by omega)]; simp
      rw [hc]
      refine Ev.iff (fun h => ?_) (fun h => ?_)
      · have he : (kids P (i : Int)).isEmpty = false := by cases hk : kids P (i : Int) <;> simp_all
        rw [he]
        refine Ev.bd (Initial_f K P _ hn (by omega)) ?_
        refine Ev.iff (fun h => ?_) (fun h => ?_)
        · rw [decide_eq_false (by omega)]; exact Ev.now _
        · rw [decide_eq_true (by omega)]; simpa using ih (i + 1) (by omega)
      · have he : (kids P (i : Int)).isEmpty = true := by cases hk : kids P (i : Int) <;> simp_all
        rw [he]; simpa using ih (i + 1) (by omega)
    · simp only [shape_Valid.l1]
      rw [if_pos (by omega), if_neg (by omega)]
theorem Valid_l1m (K P : List Int) (hn : P.length = K.length) (h24 : K.length ≤ 24) :
    Ev (fun k => shape_Valid.l1 k (K.length : Int) (-1) K P) (compsB K P) := by
  refine Ev.st (f := fun k => (shape_Initial.f k K P (-1)).bind fun t2 => (if t2 < 0 then some false else shape_Valid.l1 k (K.length : Int) (wrap64 ((-1) + 1)) K P)) ?_ (fun k => ?_)
  · refine Ev.bd (Initial_f K P _ hn (by omega)) ?_
    have hc : compB K P (-1) = decide (0 ≤ initial K P (-1)) := by unfold compB; simp
    unfold compsB; rw [hc]
    refine Ev.iff (fun h => ?_) (fun h => ?_)
    · rw [decide_eq_false (by omega)]; exact Ev.now _
    · rw [decide_eq_true (by omega), show wrap64 ((-1) + 1) = ((0 : Nat) : Int) by rw [w64 (by omega) (by omega)]; rfl]; simpa using Valid_l1 K P hn h24 K.length 0 (by omega)
  · simp only [shape_Valid.l1, if_true]
    rw [if_pos (by omega)]

theorem Valid_l0 (K P : List Int) (hn : P.length = K.length) (h24 : K.length ≤ 24) : ∀ (d i : Nat), i + d = K.length →
    Ev (fun k => shape_Valid.l0 k (K.length : Int) K (K.length : Int) (i : Int) K P) ((List.range' i d).all (okS K P) && compsB K P) := by
  intro d
  induction d with
  | zero =>
    intro i hi
    refine Ev.st (Ev.val (Valid_l1m K P hn h24) (by simp)) (fun k => ?_)
    simp only [shape_Valid.l0]
    rw [if_neg (by omega)]
  | succ d ih =>
    intro i hi
    rw [List.range'_succ, List.all_cons]
    have ih' := ih (i + 1) (by omega)
    have hw := w1 i (by omega)
    generalize hX : ((List.range' (i + 1) d).all (okS K P) && compsB K P) = X at ih'
    rw [Bool.and_assoc, hX]
    have hj : ∀ b : Bool, b = decide (P.getD i 0 ≥ (i : Int)) → 1 ≤ K.getD i 0 → K.getD i 0 ≤ 4 → -1 ≤ P.getD i 0 → Ev (fun k => shape_Valid.j2 k (K.length : Int) (K.getD i 0) (P.getD i 0) K (K.length : Int) (i : Int) b K P) (okS K P i && X) := by
      intro b hb h1 h2 h3
      by_cases h4 : P.getD i 0 < i
      · have hb' : b = false := by rw [hb, decide_eq_false (by omega)]
        subst hb'
        have ho : okS K P i = (if P.getD i 0 = -1 then solidB (K.getD i 0) else solidB (rd K (P.getD i 0)) && (solidB (K.getD i 0) || rd K (P.getD i 0) == 1)) := by
          unfold okS; rw [decide_eq_true h1, decide_eq_true h2, decide_eq_true h3, decide_eq_true h4]; simp only [Bool.true_and]
        rw [ho]
        by_cases h5 : P.getD i 0 = -1
        · rw [if_pos h5]
          by_cases h6 : solidB (K.getD i 0) = true
          · rw [h6, Bool.true_and]
            refine Ev.st ih' (fun k => ?_)
            simp only [shape_Valid.j2]
            rw [if_neg (by simp), if_pos h5, solid_f, Option.bind_some, if_pos h6, hw]
          · refine Ev.ret (fun k => ?_)
            simp only [shape_Valid.j2]
            rw [if_neg (by simp), if_pos h5, solid_f, Option.bind_some, if_neg h6]
            rw [eq_false_of_ne_true h6]; rfl
        · rw [if_neg h5]
          by_cases h7 : solidB (rd K (P.getD i 0)) = true
          · by_cases h6 : solidB (K.getD i 0) = true
            · rw [h6, h7]
              refine Ev.st (Ev.val ih' (by simp)) (fun k => ?_)
              simp only [shape_Valid.j2]
              rw [if_neg (by simp), if_neg h5, if_pos (by omega), if_pos (by omega), solid_f, Option.bind_some, if_pos h7, solid_f, Option.bind_some, if_pos h6, hw]
            · by_cases h8 : rd K (P.getD i 0) = 1
              · rw [h7, h8]
                refine Ev.st (Ev.val ih' (by simp)) (fun k => ?_)
                simp only [shape_Valid.j2]
                rw [if_neg (by simp), if_neg h5, if_pos (by omega), if_pos (by omega), solid_f, Option.bind_some, if_pos h7, solid_f, Option.bind_some, if_neg h6, if_pos h8, hw]
              · refine Ev.ret (fun k => ?_)
                simp only [shape_Valid.j2]
                rw [if_neg (by simp), if_neg h5, if_pos (by omega), if_pos (by omega), solid_f, Option.bind_some, if_pos h7, solid_f, Option.bind_some, if_neg h6, if_neg h8]
                rw [eq_false_of_ne_true h6, h7, show (rd K (P.getD i 0) == 1) = false from beq_eq_false_iff_ne.mpr h8]; rfl
          · refine Ev.ret (fun k => ?_)
            simp only [shape_Valid.j2]
            rw [if_neg (by simp), if_neg h5, if_pos (by omega), if_pos (by omega), solid_f, Option.bind_some, if_neg h7]
            rw [eq_false_of_ne_true h7]; rfl
      · have hb' : b = true := by rw [hb, decide_eq_true (by omega)]
        subst hb'
        refine Ev.ret (fun k => ?_)
        simp only [shape_Valid.j2]
        have h4' : decide (P.getD i 0 < (i : Int)) = false := decide_eq_false h4
        rw [if_pos trivial]; unfold okS; rw [h4']; simp
    have hf : (1 ≤ K.getD i 0 → K.getD i 0 ≤ 4 → -1 ≤ P.getD i 0 → False) → Ev (fun k => shape_Valid.j2 k (K.length : Int) (K.getD i 0) (P.getD i 0) K (K.length : Int) (i : Int) true K P) (okS K P i && X) := by
      intro hx
      refine Ev.ret (fun k => ?_)
      simp only [shape_Valid.j2]
      rw [if_pos trivial]
      have : okS K P i = false := by
        unfold okS
        by_cases h1 : 1 ≤ K.getD i 0
        · by_cases h2 : K.getD i 0 ≤ 4
          · by_cases h3 : -1 ≤ P.getD i 0
            · exact (hx h1 h2 h3).elim
            · rw [decide_eq_false h3]; simp
          · rw [decide_eq_false h2]; simp
        · rw [decide_eq_false h1]; simp
      rw [this]; rfl
    refine Ev.st (f := fun k => if (K.getD i 0) < 1 then (shape_Valid.j2 k (K.length : Int) (K.getD i 0) (P.getD i 0) K (K.length : Int) (i : Int) true K P) else (if (K.getD i 0) > 4 then (shape_Valid.j2 k (K.length : Int) (K.getD i 0) (P.getD i 0) K (K.length : Int) (i : Int) true K P) else (if (P.getD i 0) < (-1) then (shape_Valid.j2 k (K.length : Int) (K.getD i 0) (P.getD i 0) K (K.length : Int) (i : Int) true K P) else (shape_Valid.j2 k (K.length : Int) (K.getD i 0) (P.getD i 0) K (K.length : Int) (i : Int) (decide ((P.getD i 0) ≥ (i : Int))) K P)))) ?_ (fun k => ?_)
    · refine Ev.iff (fun h => hf (fun _ _ _ => by omega)) (fun h1 => Ev.iff (fun h => hf (fun _ _ _ => by omega)) (fun h2 => Ev.iff (fun h => hf (fun _ _ _ => by omega)) (fun h3 => hj _ rfl (by omega) (by omega) (by omega))))
    · simp only [shape_Valid.l0]
      rw [if_pos (by omega), if_pos (by omega), if_pos (by omega), if_pos (by omega)]
      simp only [rd_nat]

theorem Valid_f (K P : List Int) : Ev (fun k => shape_Valid.f k K P) (validB K P) := by
  unfold shape_Valid.f
  by_cases h1 : (K.length : Int) < 1
  · simp only [if_pos h1]
    refine Ev.ret (fun k => ?_)
    simp only [shape_Valid.j0]
    rw [if_pos trivial]; unfold validB; rw [decide_eq_false (by omega)]; rfl
  · by_cases h2 : (K.length : Int) > 24
    · simp only [if_neg h1, if_pos h2]
      refine Ev.ret (fun k => ?_)
      simp only [shape_Valid.j0]
      rw [if_pos trivial]; unfold validB; rw [decide_eq_false (by omega)]; rfl
    · simp only [if_neg h1, if_neg h2]
      by_cases h3 : P.length = K.length
      · rw [show ((P.length : Int) != (K.length : Int)) = false by simp [h3]]
        refine Ev.st (Ev.val (Valid_l0 K P h3 (by omega) K.length 0 (by omega)) ?_) (fun k => ?_)
        · unfold validB; rw [decide_eq_true (by omega)]; simp
        · simp only [shape_Valid.j0]
          rw [if_neg (by simp)]; rfl
      · rw [show ((P.length : Int) != (K.length : Int)) = true by simp; omega]
        refine Ev.ret (fun k => ?_)
        simp only [shape_Valid.j0]
        rw [if_pos trivial]; unfold validB; rw [decide_eq_false (by omega)]; rfl
end Go.Proofs.Ytnomeokicfpidaa.M
/-
  States in one another, as a relation: what lies in what. Conditions: each parent stands ahead of its states.
-/
namespace Go.Proofs.Ytnomeokicfpidaa.M
open Go.RowKit Go.Proofs.YtnomeokicfpidaaW.PrintWords Go.Proofs.YtnomeokicfpidaaW.PrintLast Go.Proofs.YtnomeokicfpidaaW.PrintMore
set_option linter.unusedVariables false

/-- Parents stand ahead. -/
def Tree (P : List Int) : Prop := ∀ j : Nat, j < P.length → -1 ≤ P.getD j 0 ∧ P.getD j 0 < j
theorem Tree.rdP {P : List Int} (h : Tree P) {a : Int} (h0 : 0 ≤ a) (h1 : a < P.length) : -1 ≤ rd P a ∧ rd P a < a := by
  have := h a.toNat (by omega)
  unfold rd; omega
/-- a is b, or lies in it. -/
inductive Un (P : List Int) : Int → Int → Prop
  | refl (a : Int) : Un P a a
  | up {a b : Int} (h0 : 0 ≤ a) (h1 : a < P.length) (h : Un P (rd P a) b) : Un P a b
theorem Un.le {P : List Int} (hT : Tree P) {a b : Int} (h : Un P a b) : b ≤ a := by
  induction h with
  | refl => exact Int.le_refl _
  | up h0 h1 _ ih => have := hT.rdP h0 h1; omega
theorem Un.trans {P : List Int} {a b c : Int} (h : Un P a b) (k : Un P b c) : Un P a c := by
  induction h with
  | refl => exact k
  | up h0 h1 _ ih => exact .up h0 h1 (ih k)
theorem Un.cases' {P : List Int} {a b : Int} (h : Un P a b) (hne : a ≠ b) : 0 ≤ a ∧ a < P.length ∧ Un P (rd P a) b := by
  cases h with
  | refl => exact absurd rfl hne
  | up h0 h1 h => exact ⟨h0, h1, h⟩
theorem Un.lt {P : List Int} (hT : Tree P) {a b : Int} (h : Un P a b) (hne : a ≠ b) : b < a := by
  obtain ⟨h0, h1, h2⟩ := h.cases' hne
  have := h2.le hT
  have := hT.rdP h0 h1; omega
theorem Un.lin {P : List Int} {a b c : Int} (h : Un P a b) (k : Un P a c) : Un P b c ∨ Un P c b := by
  induction h with
  | refl => exact .inl k
  | @up a b h0 h1 h ih =>
    by_cases e : a = c
    · subst e; exact .inr (.up h0 h1 h)
    · exact ih (k.cases' e).2.2
/-- On the way from a up to b the last state ahead of b. -/
theorem Un.kid {P : List Int} {a b : Int} (h : Un P a b) (hne : a ≠ b) : ∃ k : Nat, k < P.length ∧ P.getD k 0 = b ∧ Un P a (k : Int) := by
  induction h with
  | refl => exact absurd rfl hne
  | @up a b h0 h1 h ih =>
    by_cases e : rd P a = b
    · exact ⟨a.toNat, by omega, e, by rw [show ((a.toNat : Nat) : Int) = a by omega]; exact .refl _⟩
    · obtain ⟨k, x, y, z⟩ := ih e
      exact ⟨k, x, y, .up h0 h1 z⟩
/-- What lies in two states of one parent lies in one. -/
theorem Un.sib {P : List Int} (hT : Tree P) {a p : Int} {k m : Nat} (hk : k < P.length) (hm : m < P.length) (ek : P.getD k 0 = p) (em : P.getD m 0 = p) (h : Un P a (k : Int)) (h' : Un P a (m : Int)) : k = m := by
  have key : ∀ {x y : Nat}, x < P.length → y < P.length → P.getD x 0 = p → P.getD y 0 = p → Un P (x : Int) (y : Int) → x = y := by
    intro x y hx hy ex ey h
    by_cases e : (x : Int) = (y : Int)
    · omega
    · obtain ⟨_, _, h2⟩ := h.cases' e
      rw [rd_nat, ex] at h2
      have := h2.le hT
      have := hT y hy
      omega
  rcases h.lin h' with h | h
  · exact key hk hm ek em h
  · exact (key hm hk em ek h).symm
theorem Un.below_ {P : List Int} (hT : Tree P) {a b : Int} (h : Un P a b) (ha : a < P.length) (hb : -1 ≤ b) : -1 ≤ a := Int.le_trans hb (h.le hT)
/-- Everything lies in the top. -/
theorem Un.top {P : List Int} (hT : Tree P) : ∀ (n : Nat) (a : Int), a < n → -1 ≤ a → a < P.length → Un P a (-1) := by
  intro n
  induction n with
  | zero =>
    intro a h1 h2 h3
    obtain rfl : a = -1 := by omega
    exact .refl _
  | succ n ih =>
    intro a h1 h2 h3
    by_cases e : a = -1
    · subst e; exact .refl _
    · have := hT.rdP (a := a) (by omega) h3
      exact .up (by omega) h3 (ih _ (by omega) this.1 (by omega))
theorem Un.par {P : List Int} {k : Nat} (hk : k < P.length) : Un P (k : Int) (P.getD k 0) := .up (by omega) (by omega) (by rw [rd_nat]; exact .refl _)

/-- Numbers out of a test on bits. -/
def mkB (p : Nat → Bool) : Nat → Nat
  | 0 => 0
  | n + 1 => mkB p n ||| (if p n = true then 2 ^ n else 0)
theorem testBit_mkB (p : Nat → Bool) (j : Nat) : ∀ n, (mkB p n).testBit j = (decide (j < n) && p j) := by
  intro n
  induction n with
  | zero => simp [mkB]
  | succ n ih =>
    rw [mkB, Nat.testBit_or, ih]
    by_cases hp : p n = true
    · rw [if_pos hp, Nat.testBit_two_pow]
      by_cases e : n = j
      · subst e; simp [hp]
      · rw [decide_eq_false e, Bool.or_false]
        have : decide (j < n) = decide (j < n + 1) := by
          by_cases h : j < n
          · rw [decide_eq_true h, decide_eq_true (by omega)]
          · rw [decide_eq_false h, decide_eq_false (by omega)]
        rw [this]
    · rw [if_neg hp, Nat.zero_testBit, Bool.or_false]
      by_cases e : j = n
      · subst e; rw [eq_false_of_ne_true hp]; simp
      · have : decide (j < n) = decide (j < n + 1) := by
          by_cases h : j < n
          · rw [decide_eq_true h, decide_eq_true (by omega)]
          · rw [decide_eq_false h, decide_eq_false (by omega)]
        rw [this]
end Go.Proofs.Ytnomeokicfpidaa.M
/-
  What the printed Valid of imprimaturref06's shapes answers: the same as shape.Valid. And the law ShapeRaw, pure. Conditions: none beyond each lemma's own.
-/
namespace Go.Proofs.Ytnomeokicfpidaa.M
open Go.RowKit Go.Proofs.YtnomeokicfpidaaW.PrintWords Go.Proofs.YtnomeokicfpidaaW.PrintLast Go.Proofs.YtnomeokicfpidaaW.PrintMore Go.Proofs.Ytnomeokicfpidaa.Q
set_option linter.unusedVariables false

theorem okS_iff {K P : List Int} {i : Nat} : okS K P i = true ↔ 1 ≤ K.getD i 0 ∧ K.getD i 0 ≤ 4 ∧ -1 ≤ P.getD i 0 ∧ P.getD i 0 < i ∧
    (if P.getD i 0 = -1 then solidB (K.getD i 0) else solidB (rd K (P.getD i 0)) && (solidB (K.getD i 0) || rd K (P.getD i 0) == 1)) = true := by
  unfold okS
  simp only [Bool.and_eq_true, decide_eq_true_eq]

theorem rValid_l1 (K P : List Int) (hn : P.length = K.length) (h24 : K.length ≤ 24) (hK : ∀ j : Nat, j < K.length → 1 ≤ K.getD j 0) : ∀ (d i : Nat), i + d = K.length →
    Ev (fun k => imprimaturref06_Shape_Valid.l1 k (K.length : Int) (i : Int) K P) ((List.range' i d).all (fun j => compB K P (j : Int))) := by
  intro d
  induction d with
  | zero =>
    intro i hi
    refine Ev.ret (fun k => ?_)
    simp only [imprimaturref06_Shape_Valid.l1]
    rw [if_neg (by omega)]; simp
  | succ d ih =>
    intro i hi
    rw [List.range'_succ, List.all_cons]
    refine Ev.st (f := fun k => (imprimaturref06_Shape_Kids.f k K P (i : Int)).bind fun t => if (t.length : Int) > 0 then (imprimaturref06_Shape_Initial.f k K P (i : Int)).bind fun t2 => (if t2 < 0 then some false else imprimaturref06_Shape_Valid.l1 k (K.length : Int) (wrap64 ((i : Int) + 1)) K P) else imprimaturref06_Shape_Valid.l1 k (K.length : Int) (wrap64 ((i : Int) + 1)) K P) ?_ (fun k => ?_)
    · refine Ev.bd (rKids_f K P _ (by omega)) ?_
      rw [w1 i (by omega)]
      have hc : compB K P (i : Int) = ((kids P (i : Int)).isEmpty || decide (0 ≤ initial K P (i : Int))) := by
        unfold compB; rw [show ((i : Int) != -1) = true from bne_iff_ne.mpr (by omega)]; simp
      rw [hc]
      refine Ev.iff (fun h => ?_) (fun h => ?_)
      · have he : (kids P (i : Int)).isEmpty = false := by cases hk : kids P (i : Int) <;> simp_all
        rw [he]
        refine Ev.bd (rInitial_f K P _ hn hK (by omega)) ?_
        refine Ev.iff (fun h => ?_) (fun h => ?_)
        · rw [decide_eq_false (by omega)]; exact Ev.now _
        · rw [decide_eq_true (by omega)]; simpa using ih (i + 1) (by omega)
      · have he : (kids P (i : Int)).isEmpty = true := by cases hk : kids P (i : Int) <;> simp_all
        rw [he]; simpa using ih (i + 1) (by omega)
    · simp only [imprimaturref06_Shape_Valid.l1]
      rw [if_pos (by omega), if_neg (by omega)]
theorem rValid_l1m (K P : List Int) (hn : P.length = K.length) (h24 : K.length ≤ 24) (hK : ∀ j : Nat, j < K.length → 1 ≤ K.getD j 0) :
    Ev (fun k => imprimaturref06_Shape_Valid.l1 k (K.length : Int) (-1) K P) (compsB K P) := by
  refine Ev.st (f := fun k => (imprimaturref06_Shape_Initial.f k K P (-1)).bind fun t2 => (if t2 < 0 then some false else imprimaturref06_Shape_Valid.l1 k (K.length : Int) (wrap64 ((-1) + 1)) K P)) ?_ (fun k => ?_)
  · refine Ev.bd (rInitial_f K P _ hn hK (by omega)) ?_
    have hc : compB K P (-1) = decide (0 ≤ initial K P (-1)) := by unfold compB; simp
    unfold compsB; rw [hc]
    refine Ev.iff (fun h => ?_) (fun h => ?_)
    · rw [decide_eq_false (by omega)]; exact Ev.now _
    · rw [decide_eq_true (by omega), show wrap64 ((-1) + 1) = ((0 : Nat) : Int) by rw [w64 (by omega) (by omega)]; rfl]; simpa using rValid_l1 K P hn h24 hK K.length 0 (by omega)
  · simp only [imprimaturref06_Shape_Valid.l1]
    rw [if_pos (by omega), if_pos (by omega)]

theorem rValid_l0 (K P : List Int) (hn : P.length = K.length) (h24 : K.length ≤ 24) : ∀ (d i : Nat), i + d = K.length → (∀ j : Nat, j < i → okS K P j = true) →
    Ev (fun k => imprimaturref06_Shape_Valid.l0 k (K.length : Int) (i : Int) K P) ((List.range' i d).all (okS K P) && compsB K P) := by
  intro d
  induction d with
  | zero =>
    intro i hi hok
    refine Ev.st (Ev.val (rValid_l1m K P hn h24 (fun j hj => (okS_iff.1 (hok j (by omega))).1)) (by simp)) (fun k => ?_)
    simp only [imprimaturref06_Shape_Valid.l0]
    rw [if_neg (by omega)]
  | succ d ih =>
    intro i hi hok
    rw [List.range'_succ, List.all_cons]
    have hw := w1 i (by omega)
    have hx : okS K P i = true → Ev (fun k => imprimaturref06_Shape_Valid.l0 k (K.length : Int) ((i + 1 : Nat) : Int) K P) (okS K P i && (List.range' (i + 1) d).all (okS K P) && compsB K P) := by
      intro h
      rw [h, Bool.true_and]
      exact ih (i + 1) (by omega) (fun j hj => if h' : j < i then hok j h' else (show j = i by omega) ▸ h)
    have hF : okS K P i = false → (okS K P i && (List.range' (i + 1) d).all (okS K P) && compsB K P) = false := fun h => by rw [h]; rfl
    generalize hX : (okS K P i && (List.range' (i + 1) d).all (okS K P) && compsB K P) = X at hx hF ⊢
    have hf : (1 ≤ K.getD i 0 → K.getD i 0 ≤ 4 → -1 ≤ P.getD i 0 → False) → Ev (fun k => imprimaturref06_Shape_Valid.j2 k (K.length : Int) (i : Int) (K.getD i 0) (P.getD i 0) true K P) X := by
      intro hc
      rw [hF (eq_false_of_ne_true fun h => by obtain ⟨a, b, c, _⟩ := okS_iff.1 h; exact hc a b c)]
      refine Ev.ret (fun k => ?_)
      simp only [imprimaturref06_Shape_Valid.j2]
      rw [if_pos trivial]
    have hj : ∀ b : Bool, b = decide (P.getD i 0 ≥ (i : Int)) → 1 ≤ K.getD i 0 → K.getD i 0 ≤ 4 → -1 ≤ P.getD i 0 → Ev (fun k => imprimaturref06_Shape_Valid.j2 k (K.length : Int) (i : Int) (K.getD i 0) (P.getD i 0) b K P) X := by
      intro b hb h1 h2 h3
      by_cases h4 : P.getD i 0 < i
      · have hb' : b = false := by rw [hb, decide_eq_false (by omega)]
        subst hb'
        have j3 : ∀ c : Bool, c = (decide (P.getD i 0 ≠ -1) && !solidB (rd K (P.getD i 0))) → Ev (fun k => imprimaturref06_Shape_Valid.j3 k (K.length : Int) (i : Int) (K.getD i 0) (P.getD i 0) c K P) X := by
          intro c hc
          cases c with
          | true =>
            have hc' := hc.symm
            simp only [Bool.and_eq_true, decide_eq_true_eq, Bool.not_eq_true'] at hc'
            rw [hF (eq_false_of_ne_true fun h => by
              obtain ⟨_, _, _, _, e⟩ := okS_iff.1 h
              rw [if_neg hc'.1, hc'.2] at e; exact absurd e (by simp))]
            refine Ev.ret (fun k => ?_)
            simp only [imprimaturref06_Shape_Valid.j3]
            rw [if_pos trivial]
          | false =>
            have hc' : P.getD i 0 = -1 ∨ solidB (rd K (P.getD i 0)) = true := by
              by_cases h5 : P.getD i 0 = -1
              · exact .inl h5
              · rw [decide_eq_true h5, Bool.true_and] at hc
                right; cases h6 : solidB (rd K (P.getD i 0)) with
                | true => rfl
                | false => rw [h6] at hc; exact absurd hc (by simp)
            have hsol : ∀ {x : Int}, 1 ≤ x → x ≤ 4 → ¬ x ≥ 3 → solidB x = true := fun a b c => solidB_iff.2 (by omega)
            have hnsol : ∀ {x : Int}, x ≥ 3 → solidB x = false := fun a => eq_false_of_ne_true fun h => by have := solidB_iff.1 h; omega
            by_cases h6 : K.getD i 0 ≥ 3
            · by_cases h7 : P.getD i 0 < 0
              · rw [hF (eq_false_of_ne_true fun h => by
                  obtain ⟨_, _, _, _, e⟩ := okS_iff.1 h
                  rw [if_pos (by omega), hnsol h6] at e; exact absurd e (by simp))]
                refine Ev.ret (fun k => ?_)
                simp only [imprimaturref06_Shape_Valid.j3]
                rw [if_neg (by simp), if_pos h6, if_pos h7]
              · by_cases h8 : rd K (P.getD i 0) = 1
                · refine Ev.st (hx (okS_iff.2 ⟨h1, h2, h3, h4, ?_⟩)) (fun k => ?_)
                  · rw [if_neg (by omega), h8]; simp [solidB]
                  · simp only [imprimaturref06_Shape_Valid.j3]
                    rw [if_neg (by simp), if_pos h6, if_neg h7, if_pos (by omega), if_pos (by omega), if_pos h8, hw]
                · rw [hF (eq_false_of_ne_true fun h => by
                    obtain ⟨_, _, _, _, e⟩ := okS_iff.1 h
                    rw [if_neg (by omega), hnsol h6, beq_eq_false_iff_ne.mpr h8] at e; exact absurd e (by simp))]
                  refine Ev.ret (fun k => ?_)
                  simp only [imprimaturref06_Shape_Valid.j3]
                  rw [if_neg (by simp), if_pos h6, if_neg h7, if_pos (by omega), if_pos (by omega), if_neg h8]
            · refine Ev.st (hx (okS_iff.2 ⟨h1, h2, h3, h4, ?_⟩)) (fun k => ?_)
              · rw [hsol h1 h2 h6]
                rcases hc' with h5 | h5
                · rw [if_pos h5]
                · rw [h5]; split <;> rfl
              · simp only [imprimaturref06_Shape_Valid.j3]
                rw [if_neg (by simp), if_neg h6, hw]
        by_cases h5 : P.getD i 0 ≥ 0
        · by_cases h8 : rd K (P.getD i 0) = 1
          · refine Ev.st (j3 false (by rw [h8]; simp [solidB])) (fun k => ?_)
            simp only [imprimaturref06_Shape_Valid.j2]
            rw [if_neg (by simp), if_pos h5, if_pos h5, if_pos (by omega), if_pos h8]
          · refine Ev.st (j3 (rd K (P.getD i 0) != 2) ?_) (fun k => ?_)
            · rw [decide_eq_true (by omega)]; unfold solidB; rw [beq_eq_false_iff_ne.mpr h8]; simp [bne]
            · simp only [imprimaturref06_Shape_Valid.j2]
              rw [if_neg (by simp), if_pos h5, if_pos h5, if_pos (by omega), if_neg h8]
        · refine Ev.st (j3 false (by rw [decide_eq_false (by omega)]; rfl)) (fun k => ?_)
          simp only [imprimaturref06_Shape_Valid.j2]
          rw [if_neg (by simp), if_neg h5]
      · have hb' : b = true := by rw [hb, decide_eq_true (by omega)]
        subst hb'
        rw [hF (eq_false_of_ne_true fun h => by obtain ⟨_, _, _, e, _⟩ := okS_iff.1 h; exact h4 e)]
        refine Ev.ret (fun k => ?_)
        simp only [imprimaturref06_Shape_Valid.j2]
        rw [if_pos trivial]
    refine Ev.st (f := fun k => if (K.getD i 0) < 1 then (imprimaturref06_Shape_Valid.j2 k (K.length : Int) (i : Int) (K.getD i 0) (P.getD i 0) true K P) else (if (K.getD i 0) > 4 then (imprimaturref06_Shape_Valid.j2 k (K.length : Int) (i : Int) (K.getD i 0) (P.getD i 0) true K P) else (if (P.getD i 0) < (-1) then (imprimaturref06_Shape_Valid.j2 k (K.length : Int) (i : Int) (K.getD i 0) (P.getD i 0) true K P) else (imprimaturref06_Shape_Valid.j2 k (K.length : Int) (i : Int) (K.getD i 0) (P.getD i 0) (decide ((P.getD i 0) ≥ (i : Int))) K P)))) ?_ (fun k => ?_)
    · refine Ev.iff (fun h => hf (fun _ _ _ => by omega)) (fun h1 => Ev.iff (fun h => hf (fun _ _ _ => by omega)) (fun h2 => Ev.iff (fun h => hf (fun _ _ _ => by omega)) (fun h3 => hj _ rfl (by omega) (by omega) (by omega))))
    · simp only [imprimaturref06_Shape_Valid.l0]
      rw [if_pos (by omega), if_pos (by omega), if_pos (by omega), if_pos (by omega)]
      simp only [rd_nat]

theorem rValid_f (K P : List Int) : Ev (fun k => imprimaturref06_Shape_Valid.f k K P) (validB K P) := by
  unfold imprimaturref06_Shape_Valid.f
  by_cases h1 : (K.length : Int) < 1
  · simp only [if_pos h1]
    refine Ev.ret (fun k => ?_)
    simp only [imprimaturref06_Shape_Valid.j0]
    rw [if_pos trivial]; unfold validB; rw [decide_eq_false (by omega)]; rfl
  · by_cases h2 : (K.length : Int) > 24
    · simp only [if_neg h1, if_pos h2]
      refine Ev.ret (fun k => ?_)
      simp only [imprimaturref06_Shape_Valid.j0]
      rw [if_pos trivial]; unfold validB; rw [decide_eq_false (by omega)]; rfl
    · simp only [if_neg h1, if_neg h2]
      by_cases h3 : P.length = K.length
      · rw [show ((P.length : Int) != (K.length : Int)) = false by simp [h3]]
        refine Ev.st (Ev.val (rValid_l0 K P h3 (by omega) K.length 0 (by omega) (fun j hj => by omega)) ?_) (fun k => ?_)
        · unfold validB; rw [decide_eq_true (by omega)]; simp
        · simp only [imprimaturref06_Shape_Valid.j0]
          rw [if_neg (by simp)]; rfl
      · rw [show ((P.length : Int) != (K.length : Int)) = true by simp; omega]
        refine Ev.ret (fun k => ?_)
        simp only [imprimaturref06_Shape_Valid.j0]
        rw [if_pos trivial]; unfold validB; rw [decide_eq_false (by omega)]; rfl
end Go.Proofs.Ytnomeokicfpidaa.M
/-
  What the printed helps of the statements answer: Within, Copy, Cut; the document's example (wakes of layer 6). Conditions: none beyond each lemma's own.
-/
namespace Go.Proofs.Ytnomeokicfpidaa.M
open Go.RowKit Go.Proofs.YtnomeokicfpidaaW.PrintWords Go.Proofs.YtnomeokicfpidaaW.PrintLast Go.Proofs.YtnomeokicfpidaaW.PrintMore Go.Proofs.Ytnomeokicfpidaa.Q
set_option linter.unusedVariables false

theorem within_f (a b : Int) (hb : 1 ≤ b) (hb' : b ≤ 4611686018427387904) : imprimaturkeep_Within.f a b = some (a % b) := by
  unfold imprimaturkeep_Within.f
  have h0 := Int.emod_nonneg a (show b ≠ 0 by omega)
  have h1 := Int.emod_lt_of_pos a (show 0 < b by omega)
  rw [if_neg (by omega), if_neg (by omega), Int.tmod_eq_emod]
  by_cases h : 0 ≤ a ∨ b ∣ a
  · rw [if_pos h, if_neg (by omega)]; simp
  · rw [if_neg h]
    have : a % b ≠ 0 := fun e => h (.inr (Int.dvd_of_emod_eq_zero e))
    rw [if_pos (by omega), w64 (by omega) (by omega)]
    congr 1; omega
theorem within_z (a b : Int) (hb : b < 1) : imprimaturkeep_Within.f a b = some 0 := by
  unfold imprimaturkeep_Within.f
  rw [if_pos hb]
theorem copy_f (l : List Int) (h : l.length < 17592186044416) : imprimaturkeep_Copy_int.f l = some l := by
  unfold imprimaturkeep_Copy_int.f
  rw [if_pos (by simpa using h)]; simp
theorem cut_f (l : List Int) (n : Nat) (hn : n < 1000000) : imprimaturkeep_Cut_int.f l (n : Int) = some (l.take n) := by
  unfold imprimaturkeep_Cut_int.f
  rw [mn_eq, if_pos (by omega), if_pos (by omega), copy_f _ (by rw [List.length_take]; omega), Option.bind_some]
  congr 1
  by_cases h : l.length ≤ n
  · rw [show ((min (l.length : Int) (n : Int)) : Int).toNat = l.length by omega, List.take_length, List.take_of_length_le h]
  · rw [show ((min (l.length : Int) (n : Int)) : Int).toNat = n by omega]
theorem wakes6_f : Ev (fun k => imprimaturlaw06_wakes.f k) true := Ev.of (fun k => imprimaturlaw06_wakes.mono k) (k := 30) (by decide +kernel)
end Go.Proofs.Ytnomeokicfpidaa.M
/-
  What the statements' Of makes out of numbers: a shape that is valid, and the same for the reference. Conditions: a list shorter than 2^40.
-/
namespace Go.Proofs.Ytnomeokicfpidaa.M
open Go.RowKit Go.Proofs.YtnomeokicfpidaaW.PrintWords Go.Proofs.YtnomeokicfpidaaW.PrintLast Go.Proofs.YtnomeokicfpidaaW.PrintMore Go.Proofs.Ytnomeokicfpidaa.Q
set_option linter.unusedVariables false

/-- It comes to an answer of which Q holds. -/
def Ex {α : Type} (g : Nat → Option α) (Q : α → Prop) : Prop := ∃ r, Ev g r ∧ Q r
theorem Ex.st {α : Type} {g f : Nat → Option α} {Q : α → Prop} (h : Ex f Q) (e : ∀ k, g (k + 1) = f k) : Ex g Q := by
  obtain ⟨r, a, b⟩ := h
  exact ⟨r, Ev.st a e, b⟩
theorem Ex.iff {α : Type} {c : Prop} [Decidable c] {f g : Nat → Option α} {Q : α → Prop} (k : c → Ex f Q) (l : ¬ c → Ex g Q) : Ex (fun n => if c then f n else g n) Q := by
  by_cases h : c
  · simpa [h] using k h
  · simpa [h] using l h
theorem Ex.bd {α β : Type} {g : Nat → Option α} {f : Nat → α → Option β} {a : α} {Q : β → Prop} (h : Ev g a) (k : Ex (fun n => f n a) Q) : Ex (fun n => (g n).bind (fun x => f n x)) Q := by
  obtain ⟨r, x, y⟩ := k
  exact ⟨r, Ev.bd h x, y⟩

/-- A list of states, one by one: each is right by itself, and each that goes back stands behind a solid one of its parent. -/
def Inv (K P : List Int) : Prop := P.length = K.length ∧ 1 ≤ K.length ∧ (∀ i, i < K.length → okS K P i = true) ∧
  (∀ i, i < K.length → 3 ≤ K.getD i 0 → ∃ m, m < i ∧ P.getD m 0 = P.getD i 0 ∧ solidB (K.getD m 0) = true) ∧ P.getD 0 0 = -1 ∧ solidB (K.getD 0 0) = true

theorem getD_app_l {l m : List Int} {i : Nat} (h : i < l.length) : (l ++ m).getD i 0 = l.getD i 0 := by
  rw [List.getD_eq_getElem?_getD, List.getElem?_append_left h, ← List.getD_eq_getElem?_getD]
theorem getD_app_r {l : List Int} {x : Int} {i : Nat} (h : i = l.length) : (l ++ [x]).getD i 0 = x := by
  subst h; rw [List.getD_eq_getElem?_getD, List.getElem?_append_right (Nat.le_refl _)]; simp
theorem rd_app_l {l m : List Int} {p : Int} (h0 : 0 ≤ p) (h : p < l.length) : rd (l ++ m) p = rd l p := by
  unfold rd; exact getD_app_l (by omega)

theorem okS_app {K P : List Int} {k p : Int} (hn : P.length = K.length) {i : Nat} (hi : i < K.length) (h : okS K P i = true) : okS (K ++ [k]) (P ++ [p]) i = true := by
  obtain ⟨h1, h2, h3, h4, h5⟩ := okS_iff.1 h
  have eK : (K ++ [k]).getD i 0 = K.getD i 0 := getD_app_l hi
  have eP : (P ++ [p]).getD i 0 = P.getD i 0 := getD_app_l (by omega)
  refine okS_iff.2 ⟨by rw [eK]; exact h1, by rw [eK]; exact h2, by rw [eP]; exact h3, by rw [eP]; exact h4, ?_⟩
  rw [eP, eK]
  by_cases hp : P.getD i 0 = -1
  · rw [if_pos hp] at h5 ⊢; exact h5
  · rw [if_neg hp] at h5 ⊢
    rw [rd_app_l (by omega) (by omega)]; exact h5

theorem Inv.app {K P : List Int} {k p : Int} (h : Inv K P) (hk1 : 1 ≤ k) (hk4 : k ≤ 4) (hp0 : -1 ≤ p) (hp1 : p < K.length)
    (hp : p = -1 ∨ solidB (rd K p) = true) (hh : 3 ≤ k → p ≠ -1 ∧ rd K p = 1 ∧ ∃ m, m < K.length ∧ P.getD m 0 = p ∧ solidB (K.getD m 0) = true) : Inv (K ++ [k]) (P ++ [p]) := by
  obtain ⟨hn, h1, hok, hb, h0, hs⟩ := h
  refine ⟨by simp [hn], by simp, ?_, ?_, by rw [getD_app_l (by omega)]; exact h0, by rw [getD_app_l (by omega)]; exact hs⟩
  · intro i hi
    rw [List.length_append, List.length_singleton] at hi
    by_cases hl : i < K.length
    · exact okS_app hn hl (hok i hl)
    · obtain rfl : i = K.length := by omega
      have eK : (K ++ [k]).getD K.length 0 = k := getD_app_r rfl
      have eP : (P ++ [p]).getD K.length 0 = p := getD_app_r hn.symm
      refine okS_iff.2 ⟨by rw [eK]; exact hk1, by rw [eK]; exact hk4, by rw [eP]; exact hp0, by rw [eP]; exact hp1, ?_⟩
      rw [eK, eP]
      by_cases hq : p = -1
      · rw [if_pos hq]
        exact solidB_iff.2 (by
          by_cases h3 : 3 ≤ k
          · exact absurd hq (hh h3).1
          · omega)
      · rw [if_neg hq, rd_app_l (by omega) hp1]
        rcases hp with hp | hp
        · exact absurd hp hq
        · rw [hp, Bool.true_and]
          by_cases h3 : 3 ≤ k
          · rw [(hh h3).2.1]; simp
          · rw [solidB_iff.2 (by omega)]; rfl
  · intro i hi h3
    rw [List.length_append, List.length_singleton] at hi
    by_cases hl : i < K.length
    · rw [getD_app_l hl] at h3
      obtain ⟨m, a, b, c⟩ := hb i hl h3
      exact ⟨m, a, by rw [getD_app_l (by omega), getD_app_l (by omega)]; exact b, by rw [getD_app_l (by omega)]; exact c⟩
    · obtain rfl : i = K.length := by omega
      rw [getD_app_r rfl] at h3
      obtain ⟨_, _, m, a, b, c⟩ := hh h3
      exact ⟨m, a, by rw [getD_app_l (by omega), getD_app_r hn.symm]; exact b, by rw [getD_app_l a]; exact c⟩

theorem firstSolid_pos {K L : List Int} (hL : ∀ x ∈ L, 0 ≤ x) {x : Int} (hx : x ∈ L) (hs : solidB (rd K x) = true) : 0 ≤ firstSolid K L := by
  induction L with
  | nil => cases hx
  | cons y L ih =>
    rw [firstSolid]
    by_cases hy : solidB (rd K y) = true
    · rw [if_pos hy]; exact hL y (List.mem_cons_self ..)
    · rw [if_neg hy]
      rcases List.mem_cons.1 hx with rfl | hx
      · exact absurd hs hy
      · exact ih (fun z hz => hL z (List.mem_cons_of_mem _ hz)) hx

theorem Inv.initial {K P : List Int} (h : Inv K P) {a : Int} {i : Nat} (hi : i < K.length) (ha : P.getD i 0 = a) : 0 ≤ initial K P a := by
  obtain ⟨hn, h1, hok, hb, h0, hs⟩ := h
  have : ∃ m : Nat, m < K.length ∧ P.getD m 0 = a ∧ solidB (K.getD m 0) = true := by
    obtain ⟨a1, a2, _⟩ := okS_iff.1 (hok i hi)
    by_cases h3 : 3 ≤ K.getD i 0
    · obtain ⟨m, b, c, d⟩ := hb i hi h3
      exact ⟨m, by omega, by rw [c, ha], d⟩
    · exact ⟨i, hi, ha, solidB_iff.2 (by omega)⟩
  obtain ⟨m, b, c, d⟩ := this
  exact firstSolid_pos (fun x hx => (kids_in hn a x hx).1) (mem_kids.2 ⟨m, rfl, by omega, c⟩) (by rw [rd_nat]; exact d)

theorem Inv.valid {K P : List Int} (h : Inv K P) (h24 : K.length ≤ 24) : validB K P = true := by
  have hI := h
  obtain ⟨hn, h1, hok, hb, h0, hs⟩ := h
  unfold validB compsB
  rw [decide_eq_true ⟨h1, h24, hn⟩, Bool.true_and, Bool.and_eq_true, Bool.and_eq_true, List.all_eq_true, List.all_eq_true]
  refine ⟨fun i hi => hok i (by rw [List.mem_range'_1] at hi; omega), ?_, fun i hi => ?_⟩
  · unfold compB; rw [decide_eq_true (hI.initial (i := 0) (by omega) h0)]; simp
  · unfold compB
    by_cases hk : (kids P (i : Int)).isEmpty
    · rw [hk, show ((i : Int) != -1) = true from bne_iff_ne.mpr (by omega)]; rfl
    · have : ∃ x, x ∈ kids P (i : Int) := by
        cases hl : kids P (i : Int) with
        | nil => rw [hl] at hk; exact absurd rfl hk
        | cons x _ => exact ⟨x, List.mem_cons_self ..⟩
      obtain ⟨x, hx⟩ := this
      obtain ⟨j, rfl, b, c⟩ := mem_kids.1 hx
      rw [decide_eq_true (hI.initial (by omega) c)]; simp

/-- What Of hands back. -/
def OfPost (l : List Int) (r : List Int × List Int × List Int × List Int) : Prop :=
  Inv r.1 r.2.1 ∧ r.2.2.1 = r.1 ∧ r.2.2.2 = r.2.1 ∧ r.1.length = max 1 (min l.length 12)

theorem copy2 (K P : List Int) (hK : K.length < 17592186044416) (hP : P.length < 17592186044416) : ((imprimaturkeep_Copy_int.f K).bind fun t1 => ((imprimaturkeep_Copy_int.f P).bind fun t2 => (some (K, P, t1, t2)))) = some (K, P, K, P) := by
  rw [copy_f K hK, Option.bind_some, copy_f P hP, Option.bind_some]

theorem getD_set {l : List Int} {i j : Nat} {x : Int} (h : i < l.length) : (l.set i x).getD j 0 = if i = j then x else l.getD j 0 := by
  rw [List.getD_eq_getElem?_getD, List.getElem?_set, List.getD_eq_getElem?_getD]
  by_cases e : i = j
  · rw [if_pos e, if_pos e, if_pos h]; rfl
  · rw [if_neg e, if_neg e]

/-- Half way: those ahead of i that go back out of 0 have become plain. -/
def Inv2 (K P : List Int) (i : Nat) : Prop := P.length = K.length ∧ 1 ≤ K.length ∧ P.getD 0 0 = -1 ∧ K.getD 0 0 = 2 ∧
  (∀ j, j < K.length → 1 ≤ K.getD j 0 ∧ K.getD j 0 ≤ 4 ∧ -1 ≤ P.getD j 0 ∧ P.getD j 0 < j ∧ (P.getD j 0 = -1 → solidB (K.getD j 0) = true) ∧ (P.getD j 0 ≠ -1 → solidB (rd K (P.getD j 0)) = true)
    ∧ (P.getD j 0 ≠ -1 → solidB (K.getD j 0) = true ∨ rd K (P.getD j 0) = 1 ∨ (P.getD j 0 = 0 ∧ i ≤ j))) ∧
  (∀ j, j < K.length → 3 ≤ K.getD j 0 → ∃ m, m < j ∧ P.getD m 0 = P.getD j 0 ∧ solidB (K.getD m 0) = true)

theorem Inv2.done {K P : List Int} {i : Nat} (h : Inv2 K P i) (hi : K.length ≤ i) : Inv K P := by
  obtain ⟨hn, h1, h0, h2, hok, hb⟩ := h
  refine ⟨hn, h1, fun j hj => ?_, hb, h0, by rw [h2]; rfl⟩
  obtain ⟨a1, a2, a3, a4, a5, a6, a7⟩ := hok j hj
  refine okS_iff.2 ⟨a1, a2, a3, a4, ?_⟩
  by_cases hp : P.getD j 0 = -1
  · rw [if_pos hp]; exact a5 hp
  · rw [if_neg hp, a6 hp, Bool.true_and]
    rcases a7 hp with h | h | h
    · rw [h]; rfl
    · rw [h]; simp
    · omega
theorem Inv2.start {K P : List Int} (h : Inv K P) : Inv2 (K.set 0 2) P 0 := by
  obtain ⟨hn, h1, hok, hb, h0, hs⟩ := h
  have g : ∀ j, (K.set 0 2).getD j 0 = if 0 = j then 2 else K.getD j 0 := fun j => getD_set (by omega)
  have gs : ∀ j, solidB (K.getD j 0) = true → solidB ((K.set 0 2).getD j 0) = true := fun j hj => by
    rw [g]
    by_cases e : 0 = j
    · rw [if_pos e]; rfl
    · rw [if_neg e]; exact hj
  refine ⟨by rw [List.length_set]; exact hn, by rw [List.length_set]; exact h1, h0, by rw [g]; rfl, fun j hj => ?_, fun j hj h3 => ?_⟩
  · rw [List.length_set] at hj
    obtain ⟨a1, a2, a3, a4, a5⟩ := okS_iff.1 (hok j hj)
    have b : 1 ≤ (K.set 0 2).getD j 0 ∧ (K.set 0 2).getD j 0 ≤ 4 := by rw [g]; split <;> omega
    refine ⟨b.1, b.2, a3, a4, fun hp => ?_, fun hp => ?_, fun hp => ?_⟩
    · rw [if_pos hp] at a5; exact gs j a5
    · rw [if_neg hp, Bool.and_eq_true] at a5
      have := gs (P.getD j 0).toNat a5.1
      exact this
    · rw [if_neg hp, Bool.and_eq_true, Bool.or_eq_true] at a5
      rcases a5.2 with h | h
      · exact .inl (gs j h)
      · by_cases hz : P.getD j 0 = 0
        · exact .inr (.inr ⟨hz, Nat.zero_le _⟩)
        · refine .inr (.inl ?_)
          unfold rd at h ⊢
          rw [g, if_neg (by omega)]; exact eq_of_beq h
  · rw [List.length_set] at hj
    have hj0 : ¬ 0 = j := by intro e; rw [g, if_pos e] at h3; omega
    rw [g, if_neg hj0] at h3
    obtain ⟨m, a, b, c⟩ := hb j hj h3
    exact ⟨m, a, b, gs m c⟩
theorem Inv2.keep {K P : List Int} {i : Nat} (h : Inv2 K P i) (hc : ¬ (P.getD i 0 = 0 ∧ 3 ≤ K.getD i 0)) : Inv2 K P (i + 1) := by
  obtain ⟨hn, h1, h0, h2, hok, hb⟩ := h
  refine ⟨hn, h1, h0, h2, fun j hj => ?_, hb⟩
  obtain ⟨a1, a2, a3, a4, a5, a6, a7⟩ := hok j hj
  refine ⟨a1, a2, a3, a4, a5, a6, fun hp => ?_⟩
  rcases a7 hp with h | h | ⟨h, hi⟩
  · exact .inl h
  · exact .inr (.inl h)
  · by_cases e : i = j
    · subst e
      exact .inl (solidB_iff.2 (by omega))
    · exact .inr (.inr ⟨h, by omega⟩)
theorem Inv2.turn {K P : List Int} {i : Nat} (h : Inv2 K P i) (hi : i < K.length) (hp0 : P.getD i 0 = 0) (h3 : 3 ≤ K.getD i 0) : Inv2 (K.set i 1) P (i + 1) := by
  obtain ⟨hn, h1, h0, h2, hok, hb⟩ := h
  have g : ∀ j, (K.set i 1).getD j 0 = if i = j then 1 else K.getD j 0 := fun j => getD_set hi
  have gs : ∀ j, solidB (K.getD j 0) = true → solidB ((K.set i 1).getD j 0) = true := fun j hj => by
    rw [g]
    by_cases e : i = j
    · rw [if_pos e]; rfl
    · rw [if_neg e]; exact hj
  have hi0 : i ≠ 0 := by intro e; rw [e] at h3; omega
  refine ⟨by rw [List.length_set]; exact hn, by rw [List.length_set]; exact h1, h0, by rw [g, if_neg hi0]; exact h2, fun j hj => ?_, fun j hj hj3 => ?_⟩
  · rw [List.length_set] at hj
    obtain ⟨a1, a2, a3, a4, a5, a6, a7⟩ := hok j hj
    have b : 1 ≤ (K.set i 1).getD j 0 ∧ (K.set i 1).getD j 0 ≤ 4 := by rw [g]; split <;> omega
    refine ⟨b.1, b.2, a3, a4, fun hp => gs j (a5 hp), fun hp => gs _ (a6 hp), fun hp => ?_⟩
    rcases a7 hp with h | h | ⟨h, hij⟩
    · exact .inl (gs j h)
    · refine .inr (.inl ?_)
      unfold rd at h ⊢
      rw [g]
      by_cases e : i = (P.getD j 0).toNat
      · rw [if_pos e]
      · rw [if_neg e]; exact h
    · by_cases e : i = j
      · subst e
        exact .inl (by rw [g, if_pos rfl]; rfl)
      · exact .inr (.inr ⟨h, by omega⟩)
  · rw [List.length_set] at hj
    have hji : ¬ i = j := by intro e; rw [g, if_pos e] at hj3; omega
    rw [g, if_neg hji] at hj3
    obtain ⟨m, a, b, c⟩ := hb j hj hj3
    exact ⟨m, a, b, gs m c⟩
end Go.Proofs.Ytnomeokicfpidaa.M
/-
  Sets of states as numbers: what the printed operations on 32 bits answer. Conditions: none beyond each lemma's own.
-/
namespace Go.Proofs.Ytnomeokicfpidaa.M
open Go.RowKit Go.Proofs.YtnomeokicfpidaaW.PrintWords Go.Proofs.YtnomeokicfpidaaW.PrintLast Go.Proofs.YtnomeokicfpidaaW.PrintMore
set_option linter.unusedVariables false

theorem wraps_u32 (n : Int) (h₀ : 0 ≤ n) (h₁ : n < 2 ^ 32) : IntKind.u32.wrap n = n := by rw [IntKind.wrap_u32]; omega
theorem u32_and (a b : Nat) (ha : a < 4294967296) (hb : b < 4294967296) : Go.bits .and .u32 (a : Int) (b : Int) = ((a &&& b : Nat) : Int) := (bits_nat .u32 32 (by decide) wraps_u32 a b ha hb).1
theorem u32_or (a b : Nat) (ha : a < 4294967296) (hb : b < 4294967296) : Go.bits .or .u32 (a : Int) (b : Int) = ((a ||| b : Nat) : Int) := (bits_nat .u32 32 (by decide) wraps_u32 a b ha hb).2
theorem u32_xor (a b : Nat) (ha : a < 4294967296) (hb : b < 4294967296) : Go.bits .xor .u32 (a : Int) (b : Int) = ((a ^^^ b : Nat) : Int) := by
  have ha' : a % 2 ^ IntKind.u32.bits = a := Nat.mod_eq_of_lt ha
  have hb' : b % 2 ^ IntKind.u32.bits = b := Nat.mod_eq_of_lt hb
  simp only [Go.bits, BitVec.ofInt_natCast, BitVec.toNat_xor, BitVec.toNat_ofNat, ha', hb']
  exact wraps_u32 _ (Int.natCast_nonneg _) (by exact_mod_cast Nat.xor_lt_two_pow ha hb)
theorem shr_nat (a i : Nat) (ha : a < 4294967296) : shr .u32 (a : Int) (i : Int) = ((a >>> i : Nat) : Int) := by
  unfold shr
  rw [Int.toNat_natCast, Nat.shiftRight_eq_div_pow, show IntKind.u32.bits = 32 from rfl]
  by_cases h : i ≤ 32
  · rw [Nat.min_eq_left h]; simp
  · rw [Nat.min_eq_right (by omega)]
    have h1 : a / 2 ^ i = 0 := Nat.div_eq_of_lt (Nat.lt_of_lt_of_le (show a < 2 ^ 32 from ha) (Nat.pow_le_pow_right (by decide) (by omega)))
    have h2 : (a : Int) / 2 ^ 32 = 0 := by
      have : a / 4294967296 = 0 := Nat.div_eq_of_lt ha
      omega
    rw [h1, h2]; rfl
theorem shr_lt (a i : Nat) (ha : a < 4294967296) : a >>> i < 4294967296 := by
  rw [Nat.shiftRight_eq_div_pow]; exact Nat.lt_of_le_of_lt (Nat.div_le_self _ _) ha
theorem shl_one (i : Nat) (hi : i < 32) : shl .u32 1 (i : Int) = ((2 ^ i : Nat) : Int) := by
  unfold shl
  rw [Int.toNat_natCast, show IntKind.u32.bits = 32 from rfl, Nat.min_eq_left (by omega), Int.one_mul, wraps_u32]
  · simp
  · have : (0 : Int) < 2 ^ i := Int.pow_pos (by decide)
    omega
  · have : 2 ^ i < 2 ^ 32 := Nat.pow_lt_pow_right (by decide) hi
    exact_mod_cast this
theorem shl_big (i : Nat) (hi : 32 ≤ i) : shl .u32 1 (i : Int) = 0 := by
  unfold shl
  rw [Int.toNat_natCast, show IntKind.u32.bits = 32 from rfl, Nat.min_eq_right (by omega)]
  rfl
theorem pow_lt32 {i : Nat} (hi : i < 32) : 2 ^ i < 4294967296 := (show 2 ^ i < 2 ^ 32 from Nat.pow_lt_pow_right (by decide) hi)
/-- Is bit i set: as the code asks it. -/
theorem bit1 (a i : Nat) (ha : a < 4294967296) : Go.bits .and .u32 (shr .u32 (a : Int) (i : Int)) 1 = if a.testBit i then 1 else 0 := by
  rw [shr_nat a i ha, show (1 : Int) = ((1 : Nat) : Int) from rfl, u32_and _ _ (shr_lt a i ha) (by decide)]
  rw [Nat.testBit, Nat.and_comm]
  rw [Nat.and_comm, Nat.and_one_is_mod]
  have : (a >>> i) % 2 = 0 ∨ (a >>> i) % 2 = 1 := by omega
  rcases this with h | h
  · rw [h]; rfl
  · rw [h]; rfl
theorem u64w (i : Nat) (hi : i < 4611686018427387904) : IntKind.u64.wrap (i : Int) = (i : Int) := by
  have h : IntKind.u64.wrap (i : Int) = (i : Int) % 18446744073709551616 := by simp [IntKind.wrap, IntKind.bits, IntKind.signed]
  rw [h]; omega
theorem bitLenAux_le : ∀ (f n x : Nat), x < 2 ^ f → (Lib.bitLenAux f x ≤ n ↔ x < 2 ^ n) := by
  intro f
  induction f with
  | zero =>
    intro n x hx
    have : x = 0 := by simpa using hx
    subst this
    simp [Lib.bitLenAux, Nat.two_pow_pos]
  | succ f ih =>
    intro n x hx
    rw [Lib.bitLenAux]
    by_cases h0 : x = 0
    · rw [if_pos h0, h0]; simp [Nat.two_pow_pos]
    · rw [if_neg h0]
      cases n with
      | zero => simp; omega
      | succ n =>
        have := ih n (x / 2) (by rw [Nat.pow_succ] at hx; omega)
        rw [Nat.pow_succ]
        constructor
        · intro h
          have := this.1 (by omega)
          omega
        · intro h
          have := this.2 (by omega)
          omega
theorem bitLen_le (n x : Nat) (hx : x < 18446744073709551616) : Lib.bitLen x ≤ n ↔ x < 2 ^ n := bitLenAux_le 64 n x hx
end Go.Proofs.Ytnomeokicfpidaa.M
/-
  What the printed Proper answers: whether a set of states is a configuration. Conditions: a shape that is valid, a set below 2^32.
-/
namespace Go.Proofs.Ytnomeokicfpidaa.M
open Go.RowKit Go.Proofs.YtnomeokicfpidaaW.PrintWords Go.Proofs.YtnomeokicfpidaaW.PrintLast Go.Proofs.YtnomeokicfpidaaW.PrintMore Go.Proofs.Ytnomeokicfpidaa.Q
set_option linter.unusedVariables false

/-- How many of a list of states are in a set. -/
def cnt (s : Nat) (L : List Int) : Nat := L.countP (fun x => s.testBit x.toNat)
def heldB (K P : List Int) (s : Nat) (a : Int) (one : Bool) : Bool := if one = true then cnt s (kids P a) == min 1 (kids P a).length else cnt s (kids P a) == (kids P a).length
def atB (K P : List Int) (s : Nat) (i : Nat) : Bool := !s.testBit i || (solidB (K.getD i 0) && ((P.getD i 0 == -1 || s.testBit (P.getD i 0).toNat) && heldB K P s (i : Int) (K.getD i 0 == 1)))
def properB (K P : List Int) (s : Nat) : Bool := decide (s < 2 ^ K.length) && (heldB K P s (-1) true && (List.range' 0 K.length).all (atB K P s))

theorem held_l0 (s : Nat) (hs : s < 4294967296) (one : Bool) (L : List Int) (hL : ∀ x ∈ L, 0 ≤ x) (hl : L.length < 1099511627776) : ∀ (d i c : Nat), i + d = L.length → c ≤ i →
    Ev (fun k => shape_held.l0 k (s : Int) one L (c : Int) L (L.length : Int) (i : Int)) (if one = true then c + cnt s (L.drop i) == min 1 L.length else c + cnt s (L.drop i) == L.length) := by
  intro d
  induction d with
  | zero =>
    intro i c hi hc
    refine Ev.ret (fun k => ?_)
    simp only [shape_held.l0]
    rw [if_neg (by omega), List.drop_of_length_le (by omega), mn_eq]
    cases one with
    | true =>
      rw [if_pos rfl, if_pos rfl, show cnt s [] = 0 from rfl, Nat.add_zero]
      congr 1
      rw [Bool.eq_iff_iff, beq_iff_eq, beq_iff_eq]; omega
    | false =>
      rw [if_neg (by simp), if_neg (by simp), show cnt s [] = 0 from rfl, Nat.add_zero]
      congr 1
      rw [Bool.eq_iff_iff, beq_iff_eq, beq_iff_eq]; omega
  | succ d ih =>
    intro i c hi hc
    have hd : L.drop i = L.getD i 0 :: L.drop (i + 1) := by
      rw [List.drop_eq_getElem_cons (by omega), List.getD_eq_getElem?_getD, List.getElem?_eq_getElem (by omega)]; rfl
    have hm : L.getD i 0 ∈ L := by rw [List.getD_eq_getElem?_getD, List.getElem?_eq_getElem (by omega)]; exact List.getElem_mem _
    obtain ⟨x, hx⟩ := Int.eq_ofNat_of_zero_le (hL _ hm)
    have hcn : cnt s (L.drop i) = (if s.testBit x then 1 else 0) + cnt s (L.drop (i + 1)) := by
      rw [hd, hx]; unfold cnt; rw [List.countP_cons]
      simp only [Int.toNat_natCast]; omega
    rw [hcn]
    clear hcn
    have hw := w1 i (by omega)
    by_cases ht : s.testBit x = true
    · refine Ev.st (Ev.val (ih (i + 1) (c + 1) (by omega) (by omega)) (by rw [ht, if_pos rfl]; simp only [Nat.add_assoc])) (fun k => ?_)
      simp only [shape_held.l0]
      rw [if_pos (by omega), if_pos (by omega), if_pos (by omega), rd_nat, hx, if_pos (by omega), bit1 s x hs, ht, if_pos rfl, if_pos rfl, hw, w1 c (by omega)]
    · refine Ev.st (Ev.val (ih (i + 1) c (by omega) (by omega)) (by rw [eq_false_of_ne_true ht, if_neg (show ¬ (false = true) by simp), Nat.zero_add])) (fun k => ?_)
      simp only [shape_held.l0]
      rw [if_pos (by omega), if_pos (by omega), if_pos (by omega), rd_nat, hx, if_pos (by omega), bit1 s x hs, if_neg ht, if_neg (by omega), hw]
theorem held_f (K P : List Int) (s : Nat) (hs : s < 4294967296) (a : Int) (one : Bool) (hP : P.length < 1099511627776) : Ev (fun k => shape_held.f k K P (s : Int) a one) (heldB K P s a one) := by
  unfold shape_held.f
  refine Ev.bd (Kids_f K P a hP) ?_
  have h := held_l0 s hs one (kids P a) (fun x hx => by obtain ⟨j, rfl, _⟩ := mem_kids.1 hx; omega) (Nat.lt_of_le_of_lt (kids_len P a) hP) (kids P a).length 0 0 (by omega) (Nat.le_refl _)
  refine Ev.val h ?_
  unfold heldB
  simp only [List.drop_zero, Nat.zero_add]

theorem Proper_l0 (K P : List Int) (hn : P.length = K.length) (h24 : K.length ≤ 24) (hp : ∀ j, j < K.length → -1 ≤ P.getD j 0 ∧ P.getD j 0 < K.length) (s : Nat) (hs : s < 4294967296) : ∀ (d i : Nat), i + d = K.length →
    Ev (fun k => shape_Proper.l0 k (s : Int) K (K.length : Int) (i : Int) K P) ((List.range' i d).all (atB K P s)) := by
  intro d
  induction d with
  | zero =>
    intro i hi
    refine Ev.ret (fun k => ?_)
    simp only [shape_Proper.l0]
    rw [if_neg (by omega)]; simp
  | succ d ih =>
    intro i hi
    rw [List.range'_succ, List.all_cons]
    have ih' := ih (i + 1) (by omega)
    have hw := w1 i (by omega)
    have hpi := hp i (by omega)
    generalize hX : (List.range' (i + 1) d).all (atB K P s) = X at ih'
    by_cases hb : s.testBit i = true
    · by_cases hk : solidB (K.getD i 0) = true
      · have hh := held_f K P s hs (i : Int) (K.getD i 0 == 1) (by omega)
        have tail : Ev (fun k => (shape_held.f k K P (s : Int) (i : Int) (K.getD i 0 == 1)).bind fun t => if t = true then shape_Proper.l0 k (s : Int) K (K.length : Int) ((i + 1 : Nat) : Int) K P else some false) (heldB K P s (i : Int) (K.getD i 0 == 1) && X) := by
          refine Ev.bd hh (Ev.iff (fun h => ?_) (fun h => ?_))
          · rw [h]; exact ih'
          · rw [eq_false_of_ne_true h]; exact Ev.now _
        by_cases h1 : P.getD i 0 = -1
        · refine Ev.st (Ev.val tail (by unfold atB; rw [hb, hk, h1]; simp)) (fun k => ?_)
          simp only [shape_Proper.l0]
          rw [if_pos (by omega), if_pos (by omega), if_pos (by omega), bit1 s i hs, if_pos hb, if_pos rfl, rd_nat, solid_f, Option.bind_some, if_pos hk, if_pos (by omega), rd_nat, if_pos h1, hw]
        · obtain ⟨p, hpe⟩ := Int.eq_ofNat_of_zero_le (show 0 ≤ P.getD i 0 by omega)
          by_cases ht : s.testBit p = true
          · refine Ev.st (Ev.val tail (by unfold atB; rw [hb, hk, hpe, Int.toNat_natCast, ht]; simp)) (fun k => ?_)
            simp only [shape_Proper.l0]
            rw [if_pos (by omega), if_pos (by omega), if_pos (by omega), bit1 s i hs, if_pos hb, if_pos rfl, rd_nat, solid_f, Option.bind_some, if_pos hk, if_pos (by omega), rd_nat, if_neg h1, hpe, if_pos (by omega), bit1 s p hs, if_pos ht, if_neg (by omega), hw]
          · refine Ev.ret (fun k => ?_)
            simp only [shape_Proper.l0]
            rw [if_pos (by omega), if_pos (by omega), if_pos (by omega), bit1 s i hs, if_pos hb, if_pos rfl, rd_nat, solid_f, Option.bind_some, if_pos hk, if_pos (by omega), rd_nat, if_neg h1, hpe, if_pos (by omega), bit1 s p hs, if_neg ht, if_pos rfl]
            unfold atB
            rw [hb, hk, hpe, Int.toNat_natCast, eq_false_of_ne_true ht, show ((p : Int) == -1) = false from beq_eq_false_iff_ne.mpr (by omega)]; rfl
      · refine Ev.ret (fun k => ?_)
        simp only [shape_Proper.l0]
        rw [if_pos (by omega), if_pos (by omega), if_pos (by omega), bit1 s i hs, if_pos hb, if_pos rfl, rd_nat, solid_f, Option.bind_some, if_neg hk]
        unfold atB; rw [hb, eq_false_of_ne_true hk]; rfl
    · refine Ev.st (Ev.val ih' (by unfold atB; rw [eq_false_of_ne_true hb]; rfl)) (fun k => ?_)
      simp only [shape_Proper.l0]
      rw [if_pos (by omega), if_pos (by omega), if_pos (by omega), bit1 s i hs, if_neg hb, if_neg (by omega), hw]

theorem Proper_f (K P : List Int) (hn : P.length = K.length) (h24 : K.length ≤ 24) (hp : ∀ j, j < K.length → -1 ≤ P.getD j 0 ∧ P.getD j 0 < K.length) (s : Nat) (hs : s < 4294967296) :
    Ev (fun k => shape_Proper.f k K P (s : Int)) (properB K P s) := by
  have hl : bits_Len32.f (s : Int) = some ((Lib.bitLen s : Nat) : Int) := by
    unfold bits_Len32.f
    rw [if_pos (by omega), if_pos (by omega), Int.toNat_natCast]
  have hb := bitLen_le K.length s (by omega)
  have j0 : ∀ b : Bool, Ev (fun k => shape_Proper.j0 k (s : Int) b K P) (!b && (List.range' 0 K.length).all (atB K P s)) := by
    intro b
    cases b with
    | true =>
      refine Ev.ret (fun k => ?_)
      simp only [shape_Proper.j0]
      rw [if_pos trivial]; rfl
    | false =>
      refine Ev.st (Proper_l0 K P hn h24 hp s hs K.length 0 (by omega)) (fun k => ?_)
      simp only [shape_Proper.j0]
      rw [if_neg (by simp)]; rfl
  unfold shape_Proper.f
  simp only [hl, Option.bind_some]
  unfold properB
  by_cases hc : s < 2 ^ K.length
  · rw [decide_eq_true hc, Bool.true_and]
    refine Ev.neg (by have := hb.2 hc; omega) ?_
    refine Ev.bd (held_f K P s hs (-1) true (by omega)) (Ev.val (j0 _) (by simp))
  · rw [decide_eq_false hc, Bool.false_and]
    exact Ev.pos (by have := fun h => hc (hb.1 h); omega) (Ev.val (j0 true) rfl)
end Go.Proofs.Ytnomeokicfpidaa.M
/-
  The configurations of a shape, listed: each stands in the list once, and no other set does. Conditions: a shape as Of makes it.
-/
namespace Go.Proofs.Ytnomeokicfpidaa.M
open Go.RowKit Go.Proofs.YtnomeokicfpidaaW.PrintWords Go.Proofs.YtnomeokicfpidaaW.PrintLast Go.Proofs.YtnomeokicfpidaaW.PrintMore
set_option linter.unusedVariables false

theorem Inv.tree {K P : List Int} (h : Inv K P) : Tree P := fun j hj => by
  obtain ⟨_, _, a, b, _⟩ := okS_iff.1 (h.2.2.1 j (by have := h.1; omega))
  exact ⟨a, b⟩
theorem kids_nodup (P : List Int) (a : Int) : (kids P a).Nodup := by
  unfold kids kidsFrom List.Nodup
  rw [List.pairwise_map]
  refine List.Pairwise.imp ?_ (List.Pairwise.filter _ (List.nodup_range' (s := 0) (n := P.length) 1))
  intro x y h e
  exact h (by omega)
/-- The solid states of one. -/
def sk (K P : List Int) (a : Int) : List Int := (kids P a).filter (fun x => solidB (rd K x))
def prodL : List (List Nat) → List Nat
  | [] => [0]
  | X :: XS => X.flatMap (fun x => (prodL XS).map (fun y => x ||| y))
def confs (K P : List Int) : Nat → Int → List Nat
  | 0, _ => [0]
  | f + 1, a => if sk K P a = [] then [0]
    else if 0 ≤ a ∧ rd K a = 2 then prodL ((sk K P a).map (fun k => (confs K P f k).map (fun s => 2 ^ k.toNat ||| s)))
    else (sk K P a).flatMap (fun k => (confs K P f k).map (fun s => 2 ^ k.toNat ||| s))
def one (K : List Int) (a : Int) : Bool := a == -1 || rd K a == 1
structure LP (K P : List Int) (a : Int) (s : Nat) : Prop where
  mem : ∀ j : Nat, s.testBit j = true → j < K.length ∧ (j : Int) ≠ a ∧ Un P j a ∧ solidB (K.getD j 0) = true ∧ (P.getD j 0 = a ∨ (0 ≤ P.getD j 0 ∧ s.testBit (P.getD j 0).toNat = true))
  own : heldB K P s a (one K a) = true
  all : ∀ j : Nat, s.testBit j = true → heldB K P s (j : Int) (one K (j : Int)) = true

theorem one_nat (K : List Int) (j : Nat) : one K (j : Int) = (K.getD j 0 == 1) := by
  unfold one
  rw [show ((j : Int) == -1) = false from beq_eq_false_iff_ne.mpr (by omega), rd_nat]; rfl
theorem cnt_congr {s s' : Nat} {L : List Int} (h : ∀ x ∈ L, s.testBit x.toNat = s'.testBit x.toNat) : cnt s L = cnt s' L := by
  unfold cnt
  exact List.countP_congr (fun x hx => by rw [h x hx])
theorem heldB_congr {K P : List Int} {s s' : Nat} {a : Int} {o : Bool} (h : ∀ x ∈ kids P a, s.testBit x.toNat = s'.testBit x.toNat) : heldB K P s a o = heldB K P s' a o := by
  unfold heldB; rw [cnt_congr h]
theorem cnt_all {s : Nat} {L : List Int} : cnt s L = L.length ↔ ∀ x ∈ L, s.testBit x.toNat = true := by
  unfold cnt
  exact List.countP_eq_length
theorem cnt_zero {s : Nat} {L : List Int} : cnt s L = 0 ↔ ∀ x ∈ L, ¬ s.testBit x.toNat = true := by
  unfold cnt
  exact List.countP_eq_zero
theorem cnt_one {s : Nat} : ∀ {L : List Int}, L.Nodup → (cnt s L = 1 ↔ ∃ k ∈ L, s.testBit k.toNat = true ∧ ∀ m ∈ L, s.testBit m.toNat = true → m = k)
  | [], _ => by simp [cnt]
  | x :: L, hd => by
    obtain ⟨h1, h2⟩ := List.nodup_cons.1 hd
    have ih := cnt_one (s := s) h2
    have hc : cnt s (x :: L) = cnt s L + (if s.testBit x.toNat = true then 1 else 0) := by unfold cnt; rw [List.countP_cons]
    rw [hc]
    by_cases hx : s.testBit x.toNat = true
    · rw [if_pos hx]
      constructor
      · intro h
        have h0 := cnt_zero.1 (show cnt s L = 0 by omega)
        refine ⟨x, List.mem_cons_self .., hx, fun m hm hb => ?_⟩
        rcases List.mem_cons.1 hm with rfl | hm
        · rfl
        · exact absurd hb (h0 m hm)
      · rintro ⟨k, hk, hb, hu⟩
        have hxk := hu x (List.mem_cons_self ..) hx
        have : cnt s L = 0 := cnt_zero.2 (fun m hm hb' => h1 (by
          have := hu m (List.mem_cons_of_mem _ hm) hb'
          rw [hxk, ← this]; exact hm))
        omega
    · rw [if_neg hx, Nat.add_zero, ih]
      constructor
      · rintro ⟨k, hk, hb, hu⟩
        refine ⟨k, List.mem_cons_of_mem _ hk, hb, fun m hm hb' => ?_⟩
        rcases List.mem_cons.1 hm with rfl | hm
        · exact absurd hb' hx
        · exact hu m hm hb'
      · rintro ⟨k, hk, hb, hu⟩
        rcases List.mem_cons.1 hk with rfl | hk
        · exact absurd hb hx
        · exact ⟨k, hk, hb, fun m hm hb' => hu m (List.mem_cons_of_mem _ hm) hb'⟩
theorem held_one {K P : List Int} {s : Nat} {a : Int} : heldB K P s a true = true ↔ kids P a = [] ∨ ∃ k ∈ kids P a, s.testBit k.toNat = true ∧ ∀ m ∈ kids P a, s.testBit m.toNat = true → m = k := by
  unfold heldB
  rw [if_pos rfl, beq_iff_eq]
  by_cases h : kids P a = []
  · rw [h]; simp [cnt]
  · have : 0 < (kids P a).length := List.length_pos_iff.2 h
    rw [Nat.min_eq_left (by omega), cnt_one (kids_nodup P a)]
    constructor
    · exact .inr
    · rintro (h' | h')
      · exact absurd h' h
      · exact h'
theorem held_all {K P : List Int} {s : Nat} {a : Int} : heldB K P s a false = true ↔ ∀ m ∈ kids P a, s.testBit m.toNat = true := by
  unfold heldB
  rw [if_neg (by simp), beq_iff_eq]
  exact cnt_all

section
variable {K P : List Int} (hI : Inv K P)
include hI
theorem kid_par {a x : Int} (hx : x ∈ kids P a) (ha : a ≠ -1) : 0 ≤ a ∧ a < K.length ∧ solidB (rd K a) = true ∧ (solidB (rd K x) = true ∨ rd K a = 1) := by
  obtain ⟨j, rfl, h1, h2⟩ := mem_kids.1 hx
  have hn := hI.1
  obtain ⟨_, _, b1, b2, b3⟩ := okS_iff.1 (hI.2.2.1 j (by omega))
  rw [h2] at b1 b2 b3
  rw [if_neg ha, Bool.and_eq_true, Bool.or_eq_true, beq_iff_eq] at b3
  rw [rd_nat]
  exact ⟨by omega, by omega, b3.1, b3.2⟩
theorem sk_nil {a : Int} (h : sk K P a = []) : kids P a = [] := by
  have hn := hI.1
  cases hk : kids P a with
  | nil => rfl
  | cons x L =>
    exfalso
    have hx : x ∈ kids P a := by rw [hk]; exact List.mem_cons_self ..
    obtain ⟨j, rfl, h1, h2⟩ := mem_kids.1 hx
    have : ∃ m : Nat, m < K.length ∧ P.getD m 0 = a ∧ solidB (K.getD m 0) = true := by
      obtain ⟨a1, a2, _⟩ := okS_iff.1 (hI.2.2.1 j (by omega))
      by_cases h3 : 3 ≤ K.getD j 0
      · obtain ⟨m, b, c, d⟩ := hI.2.2.2.1 j (by omega) h3
        exact ⟨m, by omega, by rw [c, h2], d⟩
      · exact ⟨j, by omega, h2, solidB_iff.2 (by omega)⟩
    obtain ⟨m, b, c, d⟩ := this
    have : (m : Int) ∈ sk K P a := List.mem_filter.2 ⟨mem_kids.2 ⟨m, rfl, by omega, c⟩, by rw [rd_nat]; exact d⟩
    rw [h] at this; cases this
theorem one_false {a : Int} (h : sk K P a ≠ []) : one K a = false ↔ (0 ≤ a ∧ rd K a = 2) := by
  obtain ⟨x, hx⟩ := List.exists_mem_of_ne_nil _ h
  have hx' := (List.mem_filter.1 hx).1
  unfold one
  by_cases e : a = -1
  · subst e; simp
  · obtain ⟨h0, _, h2, _⟩ := kid_par hI hx' e
    rw [show (a == -1) = false from beq_eq_false_iff_ne.mpr e, Bool.false_or, beq_eq_false_iff_ne]
    have := solidB_iff.1 h2
    constructor
    · intro h; exact ⟨h0, by omega⟩
    · intro h; omega
theorem LP.clos {a : Int} {s : Nat} (h : LP K P a s) {x m : Int} (hu : Un P x m) (hx0 : 0 ≤ x) (hx : s.testBit x.toNat = true) (hm : m ≠ a) (hma : Un P m a) : 0 ≤ m ∧ s.testBit m.toNat = true := by
  have hT := hI.tree
  induction hu with
  | refl => exact ⟨hx0, hx⟩
  | @up x m h0 h1 hu ih =>
    obtain ⟨_, e1, e2, _, e3⟩ := h.mem x.toNat hx
    rw [show ((x.toNat : Nat) : Int) = x by omega] at e1 e2
    have er : P.getD x.toNat 0 = rd P x := rfl
    rw [er] at e3
    rcases e3 with e3 | ⟨e3, e4⟩
    · rw [e3] at hu
      have l1 := hu.le hT
      have l2 := hma.le hT
      omega
    · exact ih e3 e4 hm hma
end
end Go.Proofs.Ytnomeokicfpidaa.M
/-
  A set stands in the list of the configurations just if it is one. Conditions: a shape as Of makes it.
-/
namespace Go.Proofs.Ytnomeokicfpidaa.M
open Go.RowKit Go.Proofs.YtnomeokicfpidaaW.PrintWords Go.Proofs.YtnomeokicfpidaaW.PrintLast Go.Proofs.YtnomeokicfpidaaW.PrintMore
set_option linter.unusedVariables false

theorem tb_or {k s j : Nat} : (2 ^ k ||| s).testBit j = true ↔ k = j ∨ s.testBit j = true := by
  rw [Nat.testBit_or, Nat.testBit_two_pow, Bool.or_eq_true, decide_eq_true_eq]
def orL (g : Int → Nat) : List Int → Nat
  | [] => 0
  | k :: L => g k ||| orL g L
theorem tb_orL {g : Int → Nat} {j : Nat} : ∀ {L : List Int}, (orL g L).testBit j = true ↔ ∃ k ∈ L, (g k).testBit j = true
  | [] => by simp [orL]
  | x :: L => by
    rw [orL, Nat.testBit_or, Bool.or_eq_true, tb_orL (L := L)]
    constructor
    · rintro (h | ⟨k, hk, h⟩)
      · exact ⟨x, List.mem_cons_self .., h⟩
      · exact ⟨k, List.mem_cons_of_mem _ hk, h⟩
    · rintro ⟨k, hk, h⟩
      rcases List.mem_cons.1 hk with rfl | hk
      · exact .inl h
      · exact .inr ⟨k, hk, h⟩
theorem orL_congr {g g' : Int → Nat} : ∀ {L : List Int}, (∀ k ∈ L, g k = g' k) → orL g L = orL g' L
  | [], _ => rfl
  | x :: L, h => by rw [orL, orL, h x (List.mem_cons_self ..), orL_congr (fun k hk => h k (List.mem_cons_of_mem _ hk))]
theorem mem_prodL {F : Int → List Nat} {s : Nat} : ∀ {L : List Int}, L.Nodup → (s ∈ prodL (L.map F) ↔ ∃ g : Int → Nat, (∀ k ∈ L, g k ∈ F k) ∧ s = orL g L)
  | [], _ => by
    simp only [List.map_nil, prodL, List.mem_singleton, orL]
    exact ⟨fun h => ⟨fun _ => 0, fun k hk => (List.not_mem_nil hk).elim, h⟩, fun ⟨_, _, h⟩ => h⟩
  | x :: L, hd => by
    obtain ⟨h1, h2⟩ := List.nodup_cons.1 hd
    simp only [List.map_cons, prodL, List.mem_flatMap, List.mem_map]
    constructor
    · rintro ⟨a, ha, y, hy, rfl⟩
      obtain ⟨g, hg, rfl⟩ := (mem_prodL h2).1 hy
      refine ⟨fun k => if k = x then a else g k, fun k hk => ?_, ?_⟩
      · rcases List.mem_cons.1 hk with rfl | hk
        · simp only [if_true]; exact ha
        · have : k ≠ x := fun e => h1 (e ▸ hk)
          simp only [if_neg this]; exact hg k hk
      · rw [orL]
        simp only [if_true]
        rw [orL_congr (g := fun k => if k = x then a else g k) (g' := g) (L := L) (fun k hk => if_neg (fun e : k = x => h1 (e ▸ hk)))]
    · rintro ⟨g, hg, rfl⟩
      exact ⟨g x, hg x (List.mem_cons_self ..), orL g L, (mem_prodL h2).2 ⟨g, fun k hk => hg k (List.mem_cons_of_mem _ hk), rfl⟩, rfl⟩

open Classical in
/-- What of a set lies in a state. -/
noncomputable def restr (K P : List Int) (s : Nat) (k : Int) : Nat := mkB (fun j => s.testBit j && decide (Un P (j : Int) k ∧ (j : Int) ≠ k)) K.length
open Classical in
theorem tb_restr {K P : List Int} {s : Nat} {k : Int} {j : Nat} : (restr K P s k).testBit j = true ↔ j < K.length ∧ s.testBit j = true ∧ Un P (j : Int) k ∧ (j : Int) ≠ k := by
  unfold restr
  rw [testBit_mkB, Bool.and_eq_true, Bool.and_eq_true, decide_eq_true_eq, decide_eq_true_eq]

section
variable {K P : List Int} (hI : Inv K P)
include hI
theorem LP.down {a : Int} {s : Nat} (h : LP K P a s) {k : Nat} (hk : k < K.length) (ep : P.getD k 0 = a) (hb : s.testBit k = true) : LP K P (k : Int) (restr K P s k) := by
  have hT := hI.tree
  have hn := hI.1
  have agree : ∀ j : Int, Un P j (k : Int) → ∀ x ∈ kids P j, s.testBit x.toNat = (restr K P s k).testBit x.toNat := by
    intro j hj x hx
    obtain ⟨m, rfl, m1, m2⟩ := mem_kids.1 hx
    rw [Int.toNat_natCast, Bool.eq_iff_iff, tb_restr]
    have hu : Un P (m : Int) (k : Int) := .up (by omega) (by omega) (by rw [rd_nat, m2]; exact hj)
    constructor
    · intro hm
      refine ⟨by omega, hm, hu, fun e => ?_⟩
      have := hj.le hT
      have := hT m m1
      omega
    · exact fun h => h.2.1
  refine ⟨fun j hj => ?_, ?_, fun j hj => ?_⟩
  · obtain ⟨j1, j2, j3, j4⟩ := tb_restr.1 hj
    obtain ⟨b1, b2, b3, b4, b5⟩ := h.mem j j2
    refine ⟨j1, j4, j3, b4, ?_⟩
    by_cases e : P.getD j 0 = (k : Int)
    · exact .inl e
    · right
      obtain ⟨c1, c2, c3⟩ := j3.cases' j4
      rw [rd_nat] at c3
      have hp0 : 0 ≤ P.getD j 0 := by have := c3.le hT; omega
      refine ⟨hp0, tb_restr.2 ⟨by have := hT j (by omega); omega, ?_, by rw [show (((P.getD j 0).toNat : Nat) : Int) = P.getD j 0 by omega]; exact c3, by omega⟩⟩
      rcases b5 with b5 | b5
      · have l1 := c3.le hT
        have l2 := hT k (by omega)
        omega
      · exact b5.2
  · rw [← heldB_congr (agree k (.refl _))]; exact h.all k hb
  · obtain ⟨j1, j2, j3, j4⟩ := tb_restr.1 hj
    rw [← heldB_congr (agree j j3)]; exact h.all j j2

theorem mem_confs : ∀ (f : Nat) (a : Int), -1 ≤ a → a < K.length → (K.length : Int) - a ≤ f → ∀ s, s ∈ confs K P f a ↔ LP K P a s := by
  have hT := hI.tree
  have hn := hI.1
  intro f
  induction f with
  | zero => intro a h0 h1 h2; omega
  | succ f ih =>
    intro a h0 h1 h2 s
    rw [confs]
    by_cases hs : sk K P a = []
    · rw [if_pos hs, List.mem_singleton]
      have hk := sk_nil hI hs
      constructor
      · rintro rfl
        refine ⟨fun j hj => by simp at hj, ?_, fun j hj => by simp at hj⟩
        unfold heldB; rw [hk]; simp [cnt]
      · intro h
        refine Nat.eq_of_testBit_eq fun j => ?_
        rw [Nat.zero_testBit]
        refine eq_false_of_ne_true fun hj => ?_
        obtain ⟨b1, b2, b3, _⟩ := h.mem j hj
        obtain ⟨k, x, y, _⟩ := b3.kid b2
        have : (k : Int) ∈ kids P a := mem_kids.2 ⟨k, rfl, x, y⟩
        rw [hk] at this; cases this
    · rw [if_neg hs]
      have rc : ∀ k : Nat, k < K.length → P.getD k 0 = a → ∀ s, s ∈ confs K P f (k : Int) ↔ LP K P (k : Int) s := by
        intro k hk ek s
        have := hT k (by omega)
        exact ih k (by omega) (by omega) (by omega) s
      by_cases ha : 0 ≤ a ∧ rd K a = 2
      · rw [if_pos ha]
        have hone : one K a = false := (one_false hI hs).2 ha
        have hall : ∀ x ∈ kids P a, x ∈ sk K P a := fun x hx => List.mem_filter.2 ⟨hx, by
          obtain ⟨_, _, _, h4⟩ := kid_par hI hx (by omega)
          rcases h4 with h4 | h4
          · exact h4
          · omega⟩
        rw [mem_prodL (show (sk K P a).Nodup from List.Pairwise.filter _ (kids_nodup P a))]
        constructor
        · rintro ⟨g, hg, rfl⟩
          have hg' : ∀ k : Nat, (k : Int) ∈ sk K P a → ∃ t, LP K P (k : Int) t ∧ g (k : Int) = 2 ^ k ||| t := by
            intro k hk
            obtain ⟨t, ht, e⟩ := List.mem_map.1 (hg _ hk)
            obtain ⟨m, em, m1, m2⟩ := mem_kids.1 (List.mem_filter.1 hk).1
            obtain rfl : k = m := by omega
            exact ⟨t, (rc k (by omega) m2 t).1 ht, by rw [← e, Int.toNat_natCast]⟩
          have bits : ∀ j : Nat, (orL g (sk K P a)).testBit j = true ↔ ∃ k : Nat, (k : Int) ∈ sk K P a ∧ (k = j ∨ ∃ t, LP K P (k : Int) t ∧ g (k : Int) = 2 ^ k ||| t ∧ t.testBit j = true) := by
            intro j
            rw [tb_orL]
            constructor
            · rintro ⟨x, hx, hb⟩
              obtain ⟨m, rfl, m1, m2⟩ := mem_kids.1 (List.mem_filter.1 hx).1
              obtain ⟨t, ht, e⟩ := hg' m hx
              rw [e, tb_or] at hb
              rcases hb with hb | hb
              · exact ⟨m, hx, .inl hb⟩
              · exact ⟨m, hx, .inr ⟨t, ht, e, hb⟩⟩
            · rintro ⟨k, hk, hb⟩
              refine ⟨(k : Int), hk, ?_⟩
              rcases hb with rfl | ⟨t, ht, e, hb⟩
              · obtain ⟨t, ht, e⟩ := hg' k hk
                rw [e, tb_or]; exact .inl rfl
              · rw [e, tb_or]; exact .inr hb
          have skk : ∀ k : Nat, (k : Int) ∈ sk K P a → k < K.length ∧ P.getD k 0 = a ∧ solidB (K.getD k 0) = true := by
            intro k hk
            obtain ⟨h1, h2⟩ := List.mem_filter.1 hk
            obtain ⟨m, em, m1, m2⟩ := mem_kids.1 h1
            obtain rfl : k = m := by omega
            rw [rd_nat] at h2
            exact ⟨by omega, m2, h2⟩
          -- below a state of one's own the whole is as the part
          have agree : ∀ (k : Nat) (t : Nat), (k : Int) ∈ sk K P a → LP K P (k : Int) t → g (k : Int) = 2 ^ k ||| t → ∀ j : Int, Un P j (k : Int) → ∀ x ∈ kids P j, (orL g (sk K P a)).testBit x.toNat = t.testBit x.toNat := by
            intro k t hk ht e j hj x hx
            obtain ⟨m, rfl, m1, m2⟩ := mem_kids.1 hx
            obtain ⟨k1, k2, _⟩ := skk k hk
            have hu : Un P (m : Int) (k : Int) := .up (by omega) (by omega) (by rw [rd_nat, m2]; exact hj)
            have hmk : m ≠ k := fun e' => by
              have := hj.le hT
              have := hT m m1
              omega
            rw [Int.toNat_natCast, Bool.eq_iff_iff, bits]
            constructor
            · rintro ⟨k', hk', hb⟩
              obtain ⟨k1', k2', _⟩ := skk k' hk'
              have hu' : Un P (m : Int) (k' : Int) := by
                rcases hb with rfl | ⟨t', ht', _, hb⟩
                · exact .refl _
                · exact (ht'.mem m hb).2.2.1
              obtain rfl : k = k' := Un.sib hT (by omega) (by omega) k2 k2' hu hu'
              rcases hb with hb | ⟨t', ht', e', hb⟩
              · exact absurd hb.symm hmk
              · have : (2 ^ k ||| t').testBit m = (2 ^ k ||| t).testBit m := by rw [← e, ← e']
                have h3 : (2 ^ k ||| t).testBit m = true := by rw [← this, tb_or]; exact .inr hb
                rcases tb_or.1 h3 with h3 | h3
                · exact absurd h3.symm hmk
                · exact h3
            · intro hb
              exact ⟨k, hk, .inr ⟨t, ht, e, hb⟩⟩
          refine ⟨fun j hj => ?_, ?_, fun j hj => ?_⟩
          · obtain ⟨k, hk, hb⟩ := (bits j).1 hj
            obtain ⟨k1, k2, k3⟩ := skk k hk
            have hka := hT k (by omega)
            rcases hb with rfl | ⟨t, ht, e, hb⟩
            · exact ⟨k1, by omega, by have := Un.par (P := P) (k := k) (by omega); rwa [k2] at this, k3, .inl k2⟩
            · obtain ⟨b1, b2, b3, b4, b5⟩ := ht.mem j hb
              have l := b3.le hT
              refine ⟨b1, by omega, b3.trans (by have := Un.par (P := P) (k := k) (by omega); rwa [k2] at this), b4, ?_⟩
              rcases b5 with b5 | ⟨b5, b6⟩
              · exact .inr ⟨by omega, (bits _).2 ⟨k, hk, .inl (by omega)⟩⟩
              · exact .inr ⟨b5, (bits _).2 ⟨k, hk, .inr ⟨t, ht, e, b6⟩⟩⟩
          · rw [hone]
            refine held_all.2 fun x hx => ?_
            obtain ⟨m, rfl, m1, m2⟩ := mem_kids.1 hx
            exact (bits _).2 ⟨m, hall _ hx, .inl (by omega)⟩
          · obtain ⟨k, hk, hb⟩ := (bits j).1 hj
            obtain ⟨t, ht, e⟩ := hg' k hk
            rcases hb with rfl | ⟨t', ht', e', hb⟩
            · rw [heldB_congr (agree k t hk ht e k (.refl _))]; exact ht.own
            · rw [heldB_congr (agree k t' hk ht' e' j (ht'.mem j hb).2.2.1)]; exact ht'.all j hb
        · intro h
          have own := held_all.1 (by have := h.own; rwa [hone] at this)
          refine ⟨fun k => 2 ^ k.toNat ||| restr K P s k, fun x hx => ?_, ?_⟩
          · obtain ⟨m, rfl, m1, m2⟩ := mem_kids.1 (List.mem_filter.1 hx).1
            refine List.mem_map.2 ⟨restr K P s m, (rc m (by omega) m2 _).2 (h.down hI (by omega) m2 ?_), rfl⟩
            have := own _ (List.mem_filter.1 hx).1
            rwa [Int.toNat_natCast] at this
          · refine Nat.eq_of_testBit_eq fun j => ?_
            rw [Bool.eq_iff_iff, tb_orL]
            constructor
            · intro hj
              obtain ⟨b1, b2, b3, b4, b5⟩ := h.mem j hj
              obtain ⟨k, x, y, z⟩ := b3.kid b2
              refine ⟨(k : Int), hall _ (mem_kids.2 ⟨k, rfl, x, y⟩), ?_⟩
              rw [Int.toNat_natCast, tb_or]
              by_cases e : k = j
              · exact .inl e
              · exact .inr (tb_restr.2 ⟨b1, hj, z, by omega⟩)
            · rintro ⟨x, hx, hb⟩
              obtain ⟨m, rfl, m1, m2⟩ := mem_kids.1 (List.mem_filter.1 hx).1
              rw [Int.toNat_natCast, tb_or] at hb
              rcases hb with rfl | hb
              · have := own _ (List.mem_filter.1 hx).1
                rwa [Int.toNat_natCast] at this
              · exact (tb_restr.1 hb).2.1
      · rw [if_neg ha]
        have hone : one K a = true := by
          cases h : one K a with
          | true => rfl
          | false => exact absurd ((one_false hI hs).1 h) ha
        rw [List.mem_flatMap]
        constructor
        · rintro ⟨x, hx, hm⟩
          obtain ⟨hx1, hx2⟩ := List.mem_filter.1 hx
          obtain ⟨k, rfl, k1, k2⟩ := mem_kids.1 hx1
          obtain ⟨t, ht, rfl⟩ := List.mem_map.1 hm
          rw [Int.toNat_natCast]
          rw [rd_nat] at hx2
          have ht := (rc k (by omega) k2 t).1 ht
          have hka := hT k (by omega)
          have agree : ∀ j : Int, Un P j (k : Int) → ∀ x ∈ kids P j, (2 ^ k ||| t).testBit x.toNat = t.testBit x.toNat := by
            intro j hj x hx
            obtain ⟨m, rfl, m1, m2⟩ := mem_kids.1 hx
            rw [Int.toNat_natCast, Bool.eq_iff_iff, tb_or]
            constructor
            · rintro (e | h)
              · have := hj.le hT
                have := hT m m1
                omega
              · exact h
            · exact .inr
          have hpar : Un P (k : Int) a := by have := Un.par (P := P) (k := k) (by omega); rwa [k2] at this
          refine ⟨fun j hj => ?_, ?_, fun j hj => ?_⟩
          · rcases tb_or.1 hj with rfl | hb
            · exact ⟨by omega, by omega, hpar, hx2, .inl k2⟩
            · obtain ⟨b1, b2, b3, b4, b5⟩ := ht.mem j hb
              have l := b3.le hT
              refine ⟨b1, by omega, b3.trans hpar, b4, ?_⟩
              rcases b5 with b5 | ⟨b5, b6⟩
              · exact .inr ⟨by omega, tb_or.2 (.inl (by omega))⟩
              · exact .inr ⟨b5, tb_or.2 (.inr b6)⟩
          · rw [hone]
            refine held_one.2 (.inr ⟨(k : Int), hx1, by rw [Int.toNat_natCast, tb_or]; exact .inl rfl, fun m hm hb => ?_⟩)
            obtain ⟨m, rfl, m1, m2⟩ := mem_kids.1 hm
            rw [Int.toNat_natCast, tb_or] at hb
            rcases hb with rfl | hb
            · rfl
            · have := Un.sib hT (by omega) m1 k2 m2 (ht.mem m hb).2.2.1 (.refl _)
              omega
          · rcases tb_or.1 hj with rfl | hb
            · rw [heldB_congr (agree k (.refl _))]; exact ht.own
            · rw [heldB_congr (agree j (ht.mem j hb).2.2.1)]; exact ht.all j hb
        · intro h
          have own := held_one.1 (by have := h.own; rwa [hone] at this)
          rcases own with own | ⟨x, hx, hb, hu⟩
          · exfalso
            apply hs
            unfold sk; rw [own]; rfl
          · obtain ⟨k, rfl, k1, k2⟩ := mem_kids.1 hx
            rw [Int.toNat_natCast] at hb
            have hsol := (h.mem k hb).2.2.2.1
            refine ⟨(k : Int), List.mem_filter.2 ⟨hx, by rw [rd_nat]; exact hsol⟩, List.mem_map.2 ⟨restr K P s k, (rc k (by omega) k2 _).2 (h.down hI (by omega) k2 hb), ?_⟩⟩
            refine Nat.eq_of_testBit_eq fun j => ?_
            rw [Int.toNat_natCast, Bool.eq_iff_iff, tb_or]
            constructor
            · rintro (rfl | h')
              · exact hb
              · exact (tb_restr.1 h').2.1
            · intro hj
              obtain ⟨b1, b2, b3, b4, b5⟩ := h.mem j hj
              obtain ⟨m, m1, m2, m3⟩ := b3.kid b2
              have mk : (m : Int) ∈ kids P a := mem_kids.2 ⟨m, rfl, m1, m2⟩
              have mb := h.clos hI m3 (by omega) (by rw [Int.toNat_natCast]; exact hj) (by have := hT m m1; omega) (by have := Un.par m1; rwa [m2] at this)
              have := hu _ mk mb.2
              have e : m = k := by omega
              subst e
              by_cases e : m = j
              · exact .inl e
              · exact .inr (tb_restr.2 ⟨b1, hj, m3, by omega⟩)
end
end Go.Proofs.Ytnomeokicfpidaa.M
