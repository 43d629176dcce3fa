/-
  Plain lemmas: numbers and lists as the printed functions spell them. Conditions: none beyond each lemma's own.
-/
import Derived.Lib.BitFns
import Derived.Test.YtniohifoimhbkaaWMore
import Derived.Test.YtniohifoimhbkaaWNEv
namespace Go.Proofs.Ytniohifoimhbkaa.M
open Go.RowKit Go.Proofs.YtniohifoimhbkaaW.PrintWords Go.Proofs.YtniohifoimhbkaaW.PrintLast Go.Proofs.YtniohifoimhbkaaW.PrintMore
set_option linter.unusedVariables false

theorem w64 {x : Int} (h0 : -9223372036854775808 ≤ x) (h1 : x ≤ 9223372036854775807) : wrap64 x = x := by unfold wrap64; omega
theorem w1 (i : Nat) (h : i < 4611686018427387904) : wrap64 ((i : Int) + 1) = ((i + 1 : Nat) : Int) := by rw [w64 (by omega) (by omega)]; omega
theorem rd_nat (xs : List Int) (i : Nat) : rd xs (i : Int) = xs.getD i 0 := by simp [rd]
theorem mn_eq (a b : Int) : mn a b = min a b := by unfold mn; split <;> omega
theorem mx_eq (a b : Int) : mx a b = max a b := by unfold mx; split <;> omega

/-- One round more, nothing asked. -/
theorem Ev.st {α : Type} {g f : Nat → Option α} {r : α} (k : Ev f r) (h : ∀ k, g (k + 1) = f k) : Ev g r := Ev.step h k
theorem Ev.ret {α : Type} {g : Nat → Option α} {r : α} (h : ∀ k, g (k + 1) = some r) : Ev g r := Ev.step (f := fun _ => some r) h (Ev.now r)
theorem Ev.cg {α : Type} {g f : Nat → Option α} {r : α} (k : Ev f r) (h : ∀ k, g k = f k) : Ev g r := Ev.congr h k
theorem Ev.bd {α β : Type} {g : Nat → Option α} {f : Nat → α → Option β} {a : α} {r : β} (h : Ev g a) (k : Ev (fun n => f n a) r) : Ev (fun n => (g n).bind (fun x => f n x)) r := Ev.bind h k
theorem Ev.som {α β : Type} {f : Nat → α → Option β} {a : α} {r : β} (k : Ev (fun n => f n a) r) : Ev (fun n => (some a).bind (fun x => f n x)) r := k
theorem Ev.pos {α : Type} {c : Prop} [Decidable c] {f g : Nat → Option α} {r : α} (h : c) (k : Ev f r) : Ev (fun n => if c then f n else g n) r := by simpa [h] using k
theorem Ev.neg {α : Type} {c : Prop} [Decidable c] {f g : Nat → Option α} {r : α} (h : ¬ c) (k : Ev g r) : Ev (fun n => if c then f n else g n) r := by simpa [h] using k
theorem Ev.ite {α : Type} {c : Prop} [Decidable c] {f g : Nat → Option α} {r s : α} (k : c → Ev f r) (l : ¬ c → Ev g s) : Ev (fun n => if c then f n else g n) (if c then r else s) := by
  by_cases h : c
  · simpa [h] using k h
  · simpa [h] using l h
theorem Ev.iff {α : Type} {c : Prop} [Decidable c] {f g : Nat → Option α} {r : α} (k : c → Ev f r) (l : ¬ c → Ev g r) : Ev (fun n => if c then f n else g n) r := by
  by_cases h : c
  · simpa [h] using k h
  · simpa [h] using l h
theorem Ev.val {α : Type} {g : Nat → Option α} {r s : α} (h : Ev g r) (e : r = s) : Ev g s := e ▸ h
theorem Ev.un {α : Type} {g : Nat → Option α} {r s : α} (h : Ev g r) (h' : Ev g s) : r = s := by
  obtain ⟨K, h⟩ := h
  obtain ⟨L, h'⟩ := h'
  have a := h (max K L) (Nat.le_max_left _ _)
  have b := h' (max K L) (Nat.le_max_right _ _)
  rw [a] at b; exact Option.some.inj b

theorem len_le {xs : List Int} {h : xs.length * 8 ≤ 140737488351232} : xs.length ≤ 17592186043904 := by omega
end Go.Proofs.Ytniohifoimhbkaa.M
