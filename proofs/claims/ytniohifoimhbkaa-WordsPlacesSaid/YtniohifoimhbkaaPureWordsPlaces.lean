/-
  The law WordsPlaces, pure: each word stands where it is told. Conditions: those of the given statement.
-/
import Derived.Test.YtniohifoimhbkaaWrd
import Derived.Test.YtniohifoimhbkaaQx0
import Derived.Test.YtniohifoimhbkaaQx2
import Derived.Test.YtniohifoimhbkaaQx15
import Derived.Test.YtniohifoimhbkaaQx18
namespace Go.Proofs.Ytniohifoimhbkaa.Pure
open Go.RowKit Go.Proofs.YtniohifoimhbkaaW.PrintWords Go.Proofs.YtniohifoimhbkaaW.PrintLast Go.Proofs.YtniohifoimhbkaaW.PrintMore Go.Proofs.Ytniohifoimhbkaa.Q Go.Proofs.Ytniohifoimhbkaa.M
set_option linter.unusedVariables false
set_option linter.unusedSectionVars false

theorem w64n (c : Nat) (h : c ≤ 80) : wrap64 (c : Int) = (c : Int) := w64 (by omega) (by omega)
theorem wakes1_f : Ev (fun k => imprimaturlaw01_wakes.f k) true := Ev.of (fun k => imprimaturlaw01_wakes.mono k) (k := 30) (by decide +kernel)

section
variable {s : ByteArray} {ws : List S28} {m : Nat} (hs : s.size ≤ 80) (hG : M.Good s ws) (hl : ws.length ≤ 80)
include hs hG hl

theorem places_l3 (n : Int) (hm : CutAt s 35 m) (he : eW ws ws.length ≤ m) (hb : ∀ k : Nat, eW ws ws.length ≤ k → k < m → bt s (k : Int) = 32) : ∀ (d x : Nat), x + d = m → eW ws ws.length ≤ x →
    Ev (fun k => imprimaturlaw01_WordsPlaces.l3 k s (x : Int) n) true := by
  obtain ⟨h1, h2, h3⟩ := hm
  intro d
  induction d with
  | zero =>
    intro x hx hx'
    obtain rfl : x = m := by omega
    rcases h3 with h3 | h3
    · refine Ev.st (f := fun k => (imprimaturlaw01_wakes.f k).bind fun t117 => (some t117)) (Ev.bd wakes1_f (Ev.now _)) (fun k => ?_)
      simp only [imprimaturlaw01_WordsPlaces.l3]
      rw [if_neg (by omega), if_pos (by omega)]
    · by_cases e : x = s.size
      · refine Ev.st (f := fun k => (imprimaturlaw01_wakes.f k).bind fun t117 => (some t117)) (Ev.bd wakes1_f (Ev.now _)) (fun k => ?_)
        simp only [imprimaturlaw01_WordsPlaces.l3]
        rw [if_neg (by omega), if_pos (by omega)]
      · refine Ev.st (f := fun k => (imprimaturlaw01_wakes.f k).bind fun t117 => (some t117)) (Ev.bd wakes1_f (Ev.now _)) (fun k => ?_)
        simp only [imprimaturlaw01_WordsPlaces.l3]
        rw [if_pos (by omega), if_pos (by omega), if_neg (by omega), if_neg (by omega), if_pos h3]
  | succ d ih =>
    intro x hx hx'
    refine Ev.st (ih (x + 1) (by omega) (by omega)) (fun k => ?_)
    simp only [imprimaturlaw01_WordsPlaces.l3]
    rw [if_pos (by omega), if_pos (by omega), if_pos (hb x hx' (by omega)), w1 x (by omega)]

theorem places_l2 (i : Nat) (hi : i < ws.length) (n : Int) (c : Nat) (x52 : Int) (h : Ev (fun k => imprimaturlaw01_WordsPlaces.l0 k s ws (wrap64 ((c : Int) + ((ws.getD i z28).f0.size : Int))) (wrap64 (n + 1)) (ws.length : Int) (wrap64 (x52 + 1))) true)
    (hb : ∀ k : Nat, k < (ws.getD i z28).f0.size → bt (ws.getD i z28).f0 (k : Int) ≠ 32 ∧ bt (ws.getD i z28).f0 (k : Int) ≠ 35) (hz : (ws.getD i z28).f0.size ≤ 80) : ∀ (d x : Nat), x + d = (ws.getD i z28).f0.size →
    Ev (fun k => imprimaturlaw01_WordsPlaces.l2 k s ws n (i : Int) (c : Int) (x : Int) (ws.length : Int) x52) true := by
  have hr : rd_T28 ws (i : Int) = ws.getD i z28 := by unfold rd_T28; rw [Int.toNat_natCast]
  intro d
  induction d with
  | zero =>
    intro x hx
    refine Ev.st h (fun k => ?_)
    simp only [imprimaturlaw01_WordsPlaces.l2]
    rw [hr, if_pos (by omega), if_pos (by omega), if_neg (by omega)]
  | succ d ih =>
    intro x hx
    obtain ⟨b1, b2⟩ := hb x (by omega)
    refine Ev.st (ih (x + 1) (by omega)) (fun k => ?_)
    simp only [imprimaturlaw01_WordsPlaces.l2]
    rw [hr, if_pos (by omega), if_pos (by omega), if_pos (by omega), if_pos (by omega), if_neg b1, if_neg b2, w1 x (by omega)]

theorem places_l1 (n i x52 : Int) (c : Nat) (hc : c ≤ s.size) (h : Ev (fun k => imprimaturlaw01_WordsPlaces.l2 k s ws n i (c : Int) 0 (ws.length : Int) x52) true) : ∀ (d x : Nat), (d = c - x) → (∀ k : Nat, x ≤ k → k < c → bt s (k : Int) = 32) →
    Ev (fun k => imprimaturlaw01_WordsPlaces.l1 k s ws n i (c : Int) (x : Int) (ws.length : Int) x52) true := by
  intro d
  induction d with
  | zero =>
    intro x hx hb
    refine Ev.st h (fun k => ?_)
    simp only [imprimaturlaw01_WordsPlaces.l1]
    rw [if_neg (by omega)]
  | succ d ih =>
    intro x hx hb
    refine Ev.st (ih (x + 1) (by omega) (fun k a b => hb k (by omega) b)) (fun k => ?_)
    simp only [imprimaturlaw01_WordsPlaces.l1]
    rw [if_pos (by omega), if_pos (by omega), if_pos (by omega), if_pos (hb x (Nat.le_refl _) (by omega)), w1 x (by omega)]

theorem places_l0 (hm : CutAt s 35 m) (he : eW ws ws.length ≤ m) (hb : ∀ k : Nat, eW ws ws.length ≤ k → k < m → bt s (k : Int) = 32) : ∀ (d i : Nat) (n : Int), i + d = ws.length →
    Ev (fun k => imprimaturlaw01_WordsPlaces.l0 k s ws (eW ws i : Int) n (ws.length : Int) (i : Int)) true := by
  intro d
  induction d with
  | zero =>
    intro i n hi
    obtain rfl : i = ws.length := by omega
    refine Ev.st (places_l3 hs hG hl n hm he hb (m - eW ws ws.length) (eW ws ws.length) (by omega) (Nat.le_refl _)) (fun k => ?_)
    simp only [imprimaturlaw01_WordsPlaces.l0]
    rw [if_neg (by omega)]
  | succ d ih =>
    intro i n hi
    have hr : rd_T28 ws (i : Int) = ws.getD i z28 := by unfold rd_T28; rw [Int.toNat_natCast]
    have hnext : eW ws (i + 1) = (ws.getD i z28).f1.toNat - 1 + (ws.getD i z28).f0.size := by
      unfold eW; rw [if_neg (by omega), Nat.add_sub_cancel]
    obtain ⟨c, len, g1, g2, g3, g4, g5, g6, g7, g8, g9⟩ := hG i (by omega)
    have c8 : c ≤ 80 := Nat.le_trans (Nat.le_add_right c len) (Nat.le_trans g6 hs)
    have hwi := w1 i (by omega)
    have hc : wrap64 ((ws.getD i z28).f1 - 1) = (c : Int) := by
      have e : (ws.getD i z28).f1 - 1 = (c : Int) := by rw [g1]; omega
      rw [e]; exact w64n c c8
    have hcl2 : wrap64 ((c : Int) + ((ws.getD i z28).f0.size : Int)) = ((c + len : Nat) : Int) := by
      rw [g2, show (c : Int) + (len : Int) = ((c + len : Nat) : Int) from (Int.natCast_add c len).symm]
      exact w64n (c + len) (Nat.le_trans g6 hs)
    have ih' := ih (i + 1) (wrap64 (n + 1)) (by omega)
    have hnext' : eW ws (i + 1) = c + len := by rw [hnext, g1, g2, Int.toNat_natCast, Nat.add_sub_cancel]
    rw [hnext', ← hwi] at ih'
    have fi : i < ws.length := by omega
    have f80 : (ws.getD i z28).f0.size ≤ 80 := by rw [g2]; exact Nat.le_trans (Nat.le_add_left len c) (Nat.le_trans g6 hs)
    have fc : c ≤ s.size := Nat.le_trans (Nat.le_add_right c len) g6
    clear hnext hnext' hwi
    have h2 := places_l2 hs hG hl i fi n c (i : Int) (by rw [hcl2]; exact ih') (by rw [g2]; exact g9) f80 (ws.getD i z28).f0.size 0 (Nat.zero_add _)
    have h1 := places_l1 hs hG hl n (i : Int) (i : Int) c fc h2 (c - eW ws i) (eW ws i) rfl g8
    have hne : ¬ (ws.getD i z28).f0.toList = ([] : List UInt8) := by
      intro e
      rw [ByteArray.toList_eq] at e
      have := data_length (ws.getD i z28).f0
      rw [e, List.length_nil, g2] at this
      exact absurd g5 (by rw [← this]; exact Nat.lt_irrefl 0)
    have a1 : (i : Int) < (ws.length : Int) := Int.ofNat_lt.2 fi
    have a2 : 0 ≤ (i : Int) := Int.natCast_nonneg i
    have a3 : ¬ (c : Int) < (eW ws i : Int) := fun h => absurd (Int.ofNat_lt.1 h) (Nat.not_lt.2 g3)
    have a7 : ((c + len : Nat) : Int) ≤ (s.size : Int) := Int.ofNat_le.2 g6
    have a4 : ¬ ((c + len : Nat) : Int) > (s.size : Int) := Int.not_lt.2 a7
    have a5 : 0 ≤ (c : Int) := Int.natCast_nonneg c
    have a6 : (c : Int) ≤ ((c + len : Nat) : Int) := Int.ofNat_le.2 (Nat.le_add_right c len)
    have hj : ∀ b : Bool, b = false → Ev (fun k => imprimaturlaw01_WordsPlaces.j1 k s ws (eW ws i : Int) n (i : Int) (c : Int) (ws.length : Int) (i : Int) b) true := by
      rintro b rfl
      refine Ev.st h1 (fun k => ?_)
      simp only [imprimaturlaw01_WordsPlaces.j1]
      rw [if_neg (by simp)]
    have hx : (s.extract (c : Int).toNat ((c + len : Nat) : Int).toNat).toList = (ws.getD i z28).f0.toList := by
      rw [g7, Int.toNat_natCast, Int.toNat_natCast]
    by_cases h0 : (i : Int) > 0
    · refine Ev.st (hj ((c : Int) == (eW ws i : Int)) ?_) (fun k => ?_)
      · have hlt := g4 (fun e => by rw [e] at h0; exact absurd h0 (by decide))
        exact beq_eq_false_iff_ne.mpr (fun e => absurd (Int.ofNat.inj e) (Nat.ne_of_gt hlt))
      · simp only [imprimaturlaw01_WordsPlaces.l0]
        rw [hr, if_pos a1, if_pos a2, if_pos a1, hc, if_neg a3, if_neg hne, hcl2, if_neg a4, if_pos a5, if_pos a6, if_pos a7, if_pos hx, if_pos h0]
    · refine Ev.st (hj false rfl) (fun k => ?_)
      simp only [imprimaturlaw01_WordsPlaces.l0]
      rw [hr, if_pos a1, if_pos a2, if_pos a1, hc, if_neg a3, if_neg hne, hcl2, if_neg a4, if_pos a5, if_pos a6, if_pos a7, if_pos hx, if_neg h0]
end

theorem WordsPlaces : imprimaturlaw01_WordsPlaces.Pure := by
  intro a0 h0
  refine Ev.rounds (r := true) ?_
  unfold imprimaturlaw01_WordsPlaces.f
  have ht : imprimaturkeep_Text.f a0 80 = some (a0.extract 0 (min (a0.size : Int) 80).toNat) := by
    unfold imprimaturkeep_Text.f
    rw [mn_eq, if_pos (by omega), if_pos (by omega)]
  simp only [ht, Option.bind_some]
  have hs : (a0.extract 0 (min (a0.size : Int) 80).toNat).size ≤ 80 := by rw [ByteArray.size_extract]; omega
  generalize a0.extract 0 (min (a0.size : Int) 80).toNat = s at hs
  obtain ⟨⟨ws, bad⟩, hE, hS⟩ := split_f s (by omega)
  refine Ev.bd hE ?_
  simp only
  rcases hS with ⟨b, e, hb, hc⟩ | ⟨e, hG, hl, m, hm, he, hbl⟩
  · obtain ⟨rfl, rfl⟩ := Prod.mk.inj e
    refine Ev.neg (by omega) (Ev.pos rfl (Ev.pos (by omega) (Ev.pos (by omega) ?_)))
    have hw : wrap64 (((b + 1 : Nat) : Int) - 1) = (b : Int) := by rw [w64 (by omega) (by omega)]; omega
    rw [hw]
    refine Ev.pos (by omega) (Ev.pos (by omega) ?_)
    refine Ev.iff (fun _ => Ev.bd wakes1_f (Ev.now _)) (fun h1 => Ev.pos (by omega) (Ev.bd wakes1_f (Ev.now _)))
  · simp only at e hG hl he hbl
    subst e
    refine Ev.pos rfl ?_
    have := places_l0 hs hG (by omega) hm he hbl ws.length 0 0 (by omega)
    exact this
end Go.Proofs.Ytniohifoimhbkaa.Pure
