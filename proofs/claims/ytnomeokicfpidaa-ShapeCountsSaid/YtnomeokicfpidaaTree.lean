/-
  States in one another, as a relation: what lies in what. Conditions: each parent stands ahead of its states.
-/
import Derived.Test.YtnomeokicfpidaaShp
namespace Go.Proofs.Ytnomeokicfpidaa.M
open Go.RowKit Go.Proofs.YtnomeokicfpidaaW.PrintWords Go.Proofs.YtnomeokicfpidaaW.PrintLast Go.Proofs.YtnomeokicfpidaaW.PrintMore
set_option linter.unusedVariables false

/-- Parents stand ahead. -/
def Tree (P : List Int) : Prop := ∀ j : Nat, j < P.length → -1 ≤ P.getD j 0 ∧ P.getD j 0 < j
theorem Tree.rdP {P : List Int} (h : Tree P) {a : Int} (h0 : 0 ≤ a) (h1 : a < P.length) : -1 ≤ rd P a ∧ rd P a < a := by
  have := h a.toNat (by omega)
  unfold rd; omega
/-- a is b, or lies in it. -/
inductive Un (P : List Int) : Int → Int → Prop
  | refl (a : Int) : Un P a a
  | up {a b : Int} (h0 : 0 ≤ a) (h1 : a < P.length) (h : Un P (rd P a) b) : Un P a b
theorem Un.le {P : List Int} (hT : Tree P) {a b : Int} (h : Un P a b) : b ≤ a := by
  induction h with
  | refl => exact Int.le_refl _
  | up h0 h1 _ ih => have := hT.rdP h0 h1; omega
theorem Un.trans {P : List Int} {a b c : Int} (h : Un P a b) (k : Un P b c) : Un P a c := by
  induction h with
  | refl => exact k
  | up h0 h1 _ ih => exact .up h0 h1 (ih k)
theorem Un.cases' {P : List Int} {a b : Int} (h : Un P a b) (hne : a ≠ b) : 0 ≤ a ∧ a < P.length ∧ Un P (rd P a) b := by
  cases h with
  | refl => exact absurd rfl hne
  | up h0 h1 h => exact ⟨h0, h1, h⟩
theorem Un.lt {P : List Int} (hT : Tree P) {a b : Int} (h : Un P a b) (hne : a ≠ b) : b < a := by
  obtain ⟨h0, h1, h2⟩ := h.cases' hne
  have := h2.le hT
  have := hT.rdP h0 h1; omega
theorem Un.lin {P : List Int} {a b c : Int} (h : Un P a b) (k : Un P a c) : Un P b c ∨ Un P c b := by
  induction h with
  | refl => exact .inl k
  | @up a b h0 h1 h ih =>
    by_cases e : a = c
    · subst e; exact .inr (.up h0 h1 h)
    · exact ih (k.cases' e).2.2
/-- On the way from a up to b the last state ahead of b. -/
theorem Un.kid {P : List Int} {a b : Int} (h : Un P a b) (hne : a ≠ b) : ∃ k : Nat, k < P.length ∧ P.getD k 0 = b ∧ Un P a (k : Int) := by
  induction h with
  | refl => exact absurd rfl hne
  | @up a b h0 h1 h ih =>
    by_cases e : rd P a = b
    · exact ⟨a.toNat, by omega, e, by rw [show ((a.toNat : Nat) : Int) = a by omega]; exact .refl _⟩
    · obtain ⟨k, x, y, z⟩ := ih e
      exact ⟨k, x, y, .up h0 h1 z⟩
/-- What lies in two states of one parent lies in one. -/
theorem Un.sib {P : List Int} (hT : Tree P) {a p : Int} {k m : Nat} (hk : k < P.length) (hm : m < P.length) (ek : P.getD k 0 = p) (em : P.getD m 0 = p) (h : Un P a (k : Int)) (h' : Un P a (m : Int)) : k = m := by
  have key : ∀ {x y : Nat}, x < P.length → y < P.length → P.getD x 0 = p → P.getD y 0 = p → Un P (x : Int) (y : Int) → x = y := by
    intro x y hx hy ex ey h
    by_cases e : (x : Int) = (y : Int)
    · omega
    · obtain ⟨_, _, h2⟩ := h.cases' e
      rw [rd_nat, ex] at h2
      have := h2.le hT
      have := hT y hy
      omega
  rcases h.lin h' with h | h
  · exact key hk hm ek em h
  · exact (key hm hk em ek h).symm
theorem Un.below_ {P : List Int} (hT : Tree P) {a b : Int} (h : Un P a b) (ha : a < P.length) (hb : -1 ≤ b) : -1 ≤ a := Int.le_trans hb (h.le hT)
/-- Everything lies in the top. -/
theorem Un.top {P : List Int} (hT : Tree P) : ∀ (n : Nat) (a : Int), a < n → -1 ≤ a → a < P.length → Un P a (-1) := by
  intro n
  induction n with
  | zero =>
    intro a h1 h2 h3
    obtain rfl : a = -1 := by omega
    exact .refl _
  | succ n ih =>
    intro a h1 h2 h3
    by_cases e : a = -1
    · subst e; exact .refl _
    · have := hT.rdP (a := a) (by omega) h3
      exact .up (by omega) h3 (ih _ (by omega) this.1 (by omega))
theorem Un.par {P : List Int} {k : Nat} (hk : k < P.length) : Un P (k : Int) (P.getD k 0) := .up (by omega) (by omega) (by rw [rd_nat]; exact .refl _)

/-- Numbers out of a test on bits. -/
def mkB (p : Nat → Bool) : Nat → Nat
  | 0 => 0
  | n + 1 => mkB p n ||| (if p n = true then 2 ^ n else 0)
theorem testBit_mkB (p : Nat → Bool) (j : Nat) : ∀ n, (mkB p n).testBit j = (decide (j < n) && p j) := by
  intro n
  induction n with
  | zero => simp [mkB]
  | succ n ih =>
    rw [mkB, Nat.testBit_or, ih]
    by_cases hp : p n = true
    · rw [if_pos hp, Nat.testBit_two_pow]
      by_cases e : n = j
      · subst e; simp [hp]
      · rw [decide_eq_false e, Bool.or_false]
        have : decide (j < n) = decide (j < n + 1) := by
          by_cases h : j < n
          · rw [decide_eq_true h, decide_eq_true (by omega)]
          · rw [decide_eq_false h, decide_eq_false (by omega)]
        rw [this]
    · rw [if_neg hp, Nat.zero_testBit, Bool.or_false]
      by_cases e : j = n
      · subst e; rw [eq_false_of_ne_true hp]; simp
      · have : decide (j < n) = decide (j < n + 1) := by
          by_cases h : j < n
          · rw [decide_eq_true h, decide_eq_true (by omega)]
          · rw [decide_eq_false h, decide_eq_false (by omega)]
        rw [this]
end Go.Proofs.Ytnomeokicfpidaa.M
