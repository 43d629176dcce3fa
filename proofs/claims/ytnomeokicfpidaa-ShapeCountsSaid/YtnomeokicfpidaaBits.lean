/-
  Sets of states as numbers: what the printed operations on 32 bits answer. Conditions: none beyond each lemma's own.
-/
import Derived.Test.YtnomeokicfpidaaMth
import Derived.Laws.BitsLemmas
namespace Go.Proofs.Ytnomeokicfpidaa.M
open Go.RowKit Go.Proofs.YtnomeokicfpidaaW.PrintWords Go.Proofs.YtnomeokicfpidaaW.PrintLast Go.Proofs.YtnomeokicfpidaaW.PrintMore
set_option linter.unusedVariables false

theorem wraps_u32 (n : Int) (h₀ : 0 ≤ n) (h₁ : n < 2 ^ 32) : IntKind.u32.wrap n = n := by rw [IntKind.wrap_u32]; omega
theorem u32_and (a b : Nat) (ha : a < 4294967296) (hb : b < 4294967296) : Go.bits .and .u32 (a : Int) (b : Int) = ((a &&& b : Nat) : Int) := (bits_nat .u32 32 (by decide) wraps_u32 a b ha hb).1
theorem u32_or (a b : Nat) (ha : a < 4294967296) (hb : b < 4294967296) : Go.bits .or .u32 (a : Int) (b : Int) = ((a ||| b : Nat) : Int) := (bits_nat .u32 32 (by decide) wraps_u32 a b ha hb).2
theorem u32_xor (a b : Nat) (ha : a < 4294967296) (hb : b < 4294967296) : Go.bits .xor .u32 (a : Int) (b : Int) = ((a ^^^ b : Nat) : Int) := by
  have ha' : a % 2 ^ IntKind.u32.bits = a := Nat.mod_eq_of_lt ha
  have hb' : b % 2 ^ IntKind.u32.bits = b := Nat.mod_eq_of_lt hb
  simp only [Go.bits, BitVec.ofInt_natCast, BitVec.toNat_xor, BitVec.toNat_ofNat, ha', hb']
  exact wraps_u32 _ (Int.natCast_nonneg _) (by exact_mod_cast Nat.xor_lt_two_pow ha hb)
theorem shr_nat (a i : Nat) (ha : a < 4294967296) : shr .u32 (a : Int) (i : Int) = ((a >>> i : Nat) : Int) := by
  unfold shr
  rw [Int.toNat_natCast, Nat.shiftRight_eq_div_pow, show IntKind.u32.bits = 32 from rfl]
  by_cases h : i ≤ 32
  · rw [Nat.min_eq_left h]; simp
  · rw [Nat.min_eq_right (by omega)]
    have h1 : a / 2 ^ i = 0 := Nat.div_eq_of_lt (Nat.lt_of_lt_of_le (show a < 2 ^ 32 from ha) (Nat.pow_le_pow_right (by decide) (by omega)))
    have h2 : (a : Int) / 2 ^ 32 = 0 := by
      have : a / 4294967296 = 0 := Nat.div_eq_of_lt ha
      omega
    rw [h1, h2]; rfl
theorem shr_lt (a i : Nat) (ha : a < 4294967296) : a >>> i < 4294967296 := by
  rw [Nat.shiftRight_eq_div_pow]; exact Nat.lt_of_le_of_lt (Nat.div_le_self _ _) ha
theorem shl_one (i : Nat) (hi : i < 32) : shl .u32 1 (i : Int) = ((2 ^ i : Nat) : Int) := by
  unfold shl
  rw [Int.toNat_natCast, show IntKind.u32.bits = 32 from rfl, Nat.min_eq_left (by omega), Int.one_mul, wraps_u32]
  · simp
  · have : (0 : Int) < 2 ^ i := Int.pow_pos (by decide)
    omega
  · have : 2 ^ i < 2 ^ 32 := Nat.pow_lt_pow_right (by decide) hi
    exact_mod_cast this
theorem shl_big (i : Nat) (hi : 32 ≤ i) : shl .u32 1 (i : Int) = 0 := by
  unfold shl
  rw [Int.toNat_natCast, show IntKind.u32.bits = 32 from rfl, Nat.min_eq_right (by omega)]
  rfl
theorem pow_lt32 {i : Nat} (hi : i < 32) : 2 ^ i < 4294967296 := (show 2 ^ i < 2 ^ 32 from Nat.pow_lt_pow_right (by decide) hi)
/-- Is bit i set: as the code asks it. -/
theorem bit1 (a i : Nat) (ha : a < 4294967296) : Go.bits .and .u32 (shr .u32 (a : Int) (i : Int)) 1 = if a.testBit i then 1 else 0 := by
  rw [shr_nat a i ha, show (1 : Int) = ((1 : Nat) : Int) from rfl, u32_and _ _ (shr_lt a i ha) (by decide)]
  rw [Nat.testBit, Nat.and_comm]
  rw [Nat.and_comm, Nat.and_one_is_mod]
  have : (a >>> i) % 2 = 0 ∨ (a >>> i) % 2 = 1 := by omega
  rcases this with h | h
  · rw [h]; rfl
  · rw [h]; rfl
theorem u64w (i : Nat) (hi : i < 4611686018427387904) : IntKind.u64.wrap (i : Int) = (i : Int) := by
  have h : IntKind.u64.wrap (i : Int) = (i : Int) % 18446744073709551616 := by simp [IntKind.wrap, IntKind.bits, IntKind.signed]
  rw [h]; omega
theorem bitLenAux_le : ∀ (f n x : Nat), x < 2 ^ f → (Lib.bitLenAux f x ≤ n ↔ x < 2 ^ n) := by
  intro f
  induction f with
  | zero =>
    intro n x hx
    have : x = 0 := by simpa using hx
    subst this
    simp [Lib.bitLenAux, Nat.two_pow_pos]
  | succ f ih =>
    intro n x hx
    rw [Lib.bitLenAux]
    by_cases h0 : x = 0
    · rw [if_pos h0, h0]; simp [Nat.two_pow_pos]
    · rw [if_neg h0]
      cases n with
      | zero => simp; omega
      | succ n =>
        have := ih n (x / 2) (by rw [Nat.pow_succ] at hx; omega)
        rw [Nat.pow_succ]
        constructor
        · intro h
          have := this.1 (by omega)
          omega
        · intro h
          have := this.2 (by omega)
          omega
theorem bitLen_le (n x : Nat) (hx : x < 18446744073709551616) : Lib.bitLen x ≤ n ↔ x < 2 ^ n := bitLenAux_le 64 n x hx
end Go.Proofs.Ytnomeokicfpidaa.M
