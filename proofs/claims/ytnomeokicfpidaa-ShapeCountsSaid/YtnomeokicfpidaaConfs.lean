/-
  The configurations of a shape, listed: each stands in the list once, and no other set does. Conditions: a shape as Of makes it.
-/
import Derived.Test.YtnomeokicfpidaaTree
import Derived.Test.YtnomeokicfpidaaProp
namespace Go.Proofs.Ytnomeokicfpidaa.M
open Go.RowKit Go.Proofs.YtnomeokicfpidaaW.PrintWords Go.Proofs.YtnomeokicfpidaaW.PrintLast Go.Proofs.YtnomeokicfpidaaW.PrintMore
set_option linter.unusedVariables false

theorem Inv.tree {K P : List Int} (h : Inv K P) : Tree P := fun j hj => by
  obtain ⟨_, _, a, b, _⟩ := okS_iff.1 (h.2.2.1 j (by have := h.1; omega))
  exact ⟨a, b⟩
theorem kids_nodup (P : List Int) (a : Int) : (kids P a).Nodup := by
  unfold kids kidsFrom List.Nodup
  rw [List.pairwise_map]
  refine List.Pairwise.imp ?_ (List.Pairwise.filter _ (List.nodup_range' (s := 0) (n := P.length) 1))
  intro x y h e
  exact h (by omega)
/-- The solid states of one. -/
def sk (K P : List Int) (a : Int) : List Int := (kids P a).filter (fun x => solidB (rd K x))
def prodL : List (List Nat) → List Nat
  | [] => [0]
  | X :: XS => X.flatMap (fun x => (prodL XS).map (fun y => x ||| y))
def confs (K P : List Int) : Nat → Int → List Nat
  | 0, _ => [0]
  | f + 1, a => if sk K P a = [] then [0]
    else if 0 ≤ a ∧ rd K a = 2 then prodL ((sk K P a).map (fun k => (confs K P f k).map (fun s => 2 ^ k.toNat ||| s)))
    else (sk K P a).flatMap (fun k => (confs K P f k).map (fun s => 2 ^ k.toNat ||| s))
def one (K : List Int) (a : Int) : Bool := a == -1 || rd K a == 1
structure LP (K P : List Int) (a : Int) (s : Nat) : Prop where
  mem : ∀ j : Nat, s.testBit j = true → j < K.length ∧ (j : Int) ≠ a ∧ Un P j a ∧ solidB (K.getD j 0) = true ∧ (P.getD j 0 = a ∨ (0 ≤ P.getD j 0 ∧ s.testBit (P.getD j 0).toNat = true))
  own : heldB K P s a (one K a) = true
  all : ∀ j : Nat, s.testBit j = true → heldB K P s (j : Int) (one K (j : Int)) = true

theorem one_nat (K : List Int) (j : Nat) : one K (j : Int) = (K.getD j 0 == 1) := by
  unfold one
  rw [show ((j : Int) == -1) = false from beq_eq_false_iff_ne.mpr (by omega), rd_nat]; rfl
theorem cnt_congr {s s' : Nat} {L : List Int} (h : ∀ x ∈ L, s.testBit x.toNat = s'.testBit x.toNat) : cnt s L = cnt s' L := by
  unfold cnt
  exact List.countP_congr (fun x hx => by rw [h x hx])
theorem heldB_congr {K P : List Int} {s s' : Nat} {a : Int} {o : Bool} (h : ∀ x ∈ kids P a, s.testBit x.toNat = s'.testBit x.toNat) : heldB K P s a o = heldB K P s' a o := by
  unfold heldB; rw [cnt_congr h]
theorem cnt_all {s : Nat} {L : List Int} : cnt s L = L.length ↔ ∀ x ∈ L, s.testBit x.toNat = true := by
  unfold cnt
  exact List.countP_eq_length
theorem cnt_zero {s : Nat} {L : List Int} : cnt s L = 0 ↔ ∀ x ∈ L, ¬ s.testBit x.toNat = true := by
  unfold cnt
  exact List.countP_eq_zero
theorem cnt_one {s : Nat} : ∀ {L : List Int}, L.Nodup → (cnt s L = 1 ↔ ∃ k ∈ L, s.testBit k.toNat = true ∧ ∀ m ∈ L, s.testBit m.toNat = true → m = k)
  | [], _ => by simp [cnt]
  | x :: L, hd => by
    obtain ⟨h1, h2⟩ := List.nodup_cons.1 hd
    have ih := cnt_one (s := s) h2
    have hc : cnt s (x :: L) = cnt s L + (if s.testBit x.toNat = true then 1 else 0) := by unfold cnt; rw [List.countP_cons]
    rw [hc]
    by_cases hx : s.testBit x.toNat = true
    · rw [if_pos hx]
      constructor
      · intro h
        have h0 := cnt_zero.1 (show cnt s L = 0 by omega)
        refine ⟨x, List.mem_cons_self .., hx, fun m hm hb => ?_⟩
        rcases List.mem_cons.1 hm with rfl | hm
        · rfl
        · exact absurd hb (h0 m hm)
      · rintro ⟨k, hk, hb, hu⟩
        have hxk := hu x (List.mem_cons_self ..) hx
        have : cnt s L = 0 := cnt_zero.2 (fun m hm hb' => h1 (by
          have := hu m (List.mem_cons_of_mem _ hm) hb'
          rw [hxk, ← this]; exact hm))
        omega
    · rw [if_neg hx, Nat.add_zero, ih]
      constructor
      · rintro ⟨k, hk, hb, hu⟩
        refine ⟨k, List.mem_cons_of_mem _ hk, hb, fun m hm hb' => ?_⟩
        rcases List.mem_cons.1 hm with rfl | hm
        · exact absurd hb' hx
        · exact hu m hm hb'
      · rintro ⟨k, hk, hb, hu⟩
        rcases List.mem_cons.1 hk with rfl | hk
        · exact absurd hb hx
        · exact ⟨k, hk, hb, fun m hm hb' => hu m (List.mem_cons_of_mem _ hm) hb'⟩
theorem held_one {K P : List Int} {s : Nat} {a : Int} : heldB K P s a true = true ↔ kids P a = [] ∨ ∃ k ∈ kids P a, s.testBit k.toNat = true ∧ ∀ m ∈ kids P a, s.testBit m.toNat = true → m = k := by
  unfold heldB
  rw [if_pos rfl, beq_iff_eq]
  by_cases h : kids P a = []
  · rw [h]; simp [cnt]
  · have : 0 < (kids P a).length := List.length_pos_iff.2 h
    rw [Nat.min_eq_left (by omega), cnt_one (kids_nodup P a)]
    constructor
    · exact .inr
    · rintro (h' | h')
      · exact absurd h' h
      · exact h'
theorem held_all {K P : List Int} {s : Nat} {a : Int} : heldB K P s a false = true ↔ ∀ m ∈ kids P a, s.testBit m.toNat = true := by
  unfold heldB
  rw [if_neg (by simp), beq_iff_eq]
  exact cnt_all

section
variable {K P : List Int} (hI : Inv K P)
include hI
theorem kid_par {a x : Int} (hx : x ∈ kids P a) (ha : a ≠ -1) : 0 ≤ a ∧ a < K.length ∧ solidB (rd K a) = true ∧ (solidB (rd K x) = true ∨ rd K a = 1) := by
  obtain ⟨j, rfl, h1, h2⟩ := mem_kids.1 hx
  have hn := hI.1
  obtain ⟨_, _, b1, b2, b3⟩ := okS_iff.1 (hI.2.2.1 j (by omega))
  rw [h2] at b1 b2 b3
  rw [if_neg ha, Bool.and_eq_true, Bool.or_eq_true, beq_iff_eq] at b3
  rw [rd_nat]
  exact ⟨by omega, by omega, b3.1, b3.2⟩
theorem sk_nil {a : Int} (h : sk K P a = []) : kids P a = [] := by
  have hn := hI.1
  cases hk : kids P a with
  | nil => rfl
  | cons x L =>
    exfalso
    have hx : x ∈ kids P a := by rw [hk]; exact List.mem_cons_self ..
    obtain ⟨j, rfl, h1, h2⟩ := mem_kids.1 hx
    have : ∃ m : Nat, m < K.length ∧ P.getD m 0 = a ∧ solidB (K.getD m 0) = true := by
      obtain ⟨a1, a2, _⟩ := okS_iff.1 (hI.2.2.1 j (by omega))
      by_cases h3 : 3 ≤ K.getD j 0
      · obtain ⟨m, b, c, d⟩ := hI.2.2.2.1 j (by omega) h3
        exact ⟨m, by omega, by rw [c, h2], d⟩
      · exact ⟨j, by omega, h2, solidB_iff.2 (by omega)⟩
    obtain ⟨m, b, c, d⟩ := this
    have : (m : Int) ∈ sk K P a := List.mem_filter.2 ⟨mem_kids.2 ⟨m, rfl, by omega, c⟩, by rw [rd_nat]; exact d⟩
    rw [h] at this; cases this
theorem one_false {a : Int} (h : sk K P a ≠ []) : one K a = false ↔ (0 ≤ a ∧ rd K a = 2) := by
  obtain ⟨x, hx⟩ := List.exists_mem_of_ne_nil _ h
  have hx' := (List.mem_filter.1 hx).1
  unfold one
  by_cases e : a = -1
  · subst e; simp
  · obtain ⟨h0, _, h2, _⟩ := kid_par hI hx' e
    rw [show (a == -1) = false from beq_eq_false_iff_ne.mpr e, Bool.false_or, beq_eq_false_iff_ne]
    have := solidB_iff.1 h2
    constructor
    · intro h; exact ⟨h0, by omega⟩
    · intro h; omega
theorem LP.clos {a : Int} {s : Nat} (h : LP K P a s) {x m : Int} (hu : Un P x m) (hx0 : 0 ≤ x) (hx : s.testBit x.toNat = true) (hm : m ≠ a) (hma : Un P m a) : 0 ≤ m ∧ s.testBit m.toNat = true := by
  have hT := hI.tree
  induction hu with
  | refl => exact ⟨hx0, hx⟩
  | @up x m h0 h1 hu ih =>
    obtain ⟨_, e1, e2, _, e3⟩ := h.mem x.toNat hx
    rw [show ((x.toNat : Nat) : Int) = x by omega] at e1 e2
    have er : P.getD x.toNat 0 = rd P x := rfl
    rw [er] at e3
    rcases e3 with e3 | ⟨e3, e4⟩
    · rw [e3] at hu
      have l1 := hu.le hT
      have l2 := hma.le hT
      omega
    · exact ih e3 e4 hm hma
end
end Go.Proofs.Ytnomeokicfpidaa.M
