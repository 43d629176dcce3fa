-- merged by pack.py out of: YtnomeokicfpidaaOfL YtnomeokicfpidaaCount YtnomeokicfpidaaPureShapeCounts YtnomeokicfpidaaCfg YtnomeokicfpidaaCfgW YtnomeokicfpidaaPureShapeConfigs
import Derived.Test.YtnomeokicfpidaaKShapeConfigs33
import Derived.Test.YtnomeokicfpidaaKShapeConfigs24
import Derived.Test.YtnomeokicfpidaaKShapeConfigs25
import Derived.Test.YtnomeokicfpidaaKShapeConfigs32
import Derived.Test.YtnomeokicfpidaaKShapeConfigs27
import Derived.Test.YtnomeokicfpidaaKShapeConfigs28
import Derived.Test.YtnomeokicfpidaaKShapeConfigs29
/-
  The loops of the printed Of. Conditions: a list shorter than 2^40.
-/
namespace Go.Proofs.Ytnomeokicfpidaa.M
open Go.RowKit Go.Proofs.YtnomeokicfpidaaW.PrintWords Go.Proofs.YtnomeokicfpidaaW.PrintLast Go.Proofs.YtnomeokicfpidaaW.PrintMore Go.Proofs.Ytnomeokicfpidaa.Q
set_option linter.unusedVariables false

theorem of_l2 (l : List Int) (hl : l.length < 17592186044416) (P : List Int) : ∀ (d i : Nat) (K : List Int), i + d = K.length → Inv2 K P i → K.length = max 1 (min l.length 12) →
    Ex (fun k => imprimaturlaw06_Of.l2 k K P (P.length : Int) (i : Int)) (OfPost l) := by
  intro d
  induction d with
  | zero =>
    intro i K hi h hn
    refine ⟨(K, P, K, P), Ev.ret (fun k => ?_), h.done (by omega), rfl, rfl, hn⟩
    have := h.1
    simp only [imprimaturlaw06_Of.l2]
    rw [if_neg (by omega)]
    exact copy2 K P (by omega) (by omega)
  | succ d ih =>
    intro i K hi h hn
    have hP := h.1
    by_cases hc : P.getD i 0 = 0 ∧ 3 ≤ K.getD i 0
    · have ih' := ih (i + 1) (K.set i 1) (by rw [List.length_set]; omega) (h.turn (by omega) hc.1 hc.2) (by rw [List.length_set]; exact hn)
      refine Ex.st ih' (fun k => ?_)
      simp only [imprimaturlaw06_Of.l2]
      rw [if_pos (by omega), if_pos (by omega), if_pos (by omega), rd_nat, if_pos hc.1, if_pos (by omega), rd_nat, if_pos (show K.getD i 0 ≥ 3 from hc.2), w1 i (by omega), Int.toNat_natCast]
    · refine Ex.st (ih (i + 1) K (by omega) (h.keep hc) hn) (fun k => ?_)
      simp only [imprimaturlaw06_Of.l2]
      rw [if_pos (by omega), if_pos (by omega), if_pos (by omega), rd_nat, rd_nat, w1 i (by omega)]
      by_cases h0 : P.getD i 0 = 0
      · rw [if_pos h0, if_pos (by omega), if_neg (fun h3 => hc ⟨h0, h3⟩)]
      · rw [if_neg h0]

theorem of_j7 (l : List Int) (hl : l.length < 17592186044416) (K P : List Int) (h : Inv K P) (hn : K.length = max 1 (min l.length 12)) (b : Bool) :
    Ex (fun k => imprimaturlaw06_Of.j7 k K P b) (OfPost l) := by
  have h1 := h.2.1
  have hP := h.1
  cases b with
  | true =>
    refine Ex.st (of_l2 l hl P (K.set 0 2).length 0 (K.set 0 2) (by omega) (Inv2.start h) (by rw [List.length_set]; exact hn)) (fun k => ?_)
    simp only [imprimaturlaw06_Of.j7]
    rw [if_pos trivial, if_pos (by omega)]; rfl
  | false =>
    refine ⟨(K, P, K, P), Ev.ret (fun k => ?_), h, rfl, rfl, hn⟩
    simp only [imprimaturlaw06_Of.j7]
    rw [if_neg (by simp)]
    exact copy2 K P (by omega) (by omega)

theorem of_fin (l : List Int) (hl : l.length < 17592186044416) (K P : List Int) (h : Inv K P) (hn : K.length = max 1 (min l.length 12)) (i : Int) :
    Ex (fun k => imprimaturlaw06_Of.j1 k l K P i false) (OfPost l) := by
  by_cases h0 : (l.length : Int) > 0
  · refine Ex.st (of_j7 l hl K P h hn ((Int.tmod (rd l 0) 3) == 0)) (fun k => ?_)
    simp only [imprimaturlaw06_Of.j1]
    rw [if_neg (by simp), if_pos h0, if_pos (by omega)]
  · refine Ex.st (of_j7 l hl K P h hn false) (fun k => ?_)
    simp only [imprimaturlaw06_Of.j1]
    rw [if_neg (by simp), if_neg h0]

/-- What a round of the great loop asks of those that follow. -/
def Next (l : List Int) (i : Nat) : Prop := ∀ K P : List Int, Inv K P → K.length = i + 1 → Ex (fun k => imprimaturlaw06_Of.l0 k l K P ((i + 1 : Nat) : Int)) (OfPost l)

theorem of_l1 (l : List Int) (i : Nat) (hi1 : i < l.length) (hi : i < 12) (K P : List Int) (h : Inv K P) (hn : K.length = i) (p : Int) (hp0 : -1 ≤ p) (hp1 : p < K.length) (hp : p = -1 ∨ solidB (rd K p) = true) (next : Next l i) :
    ∀ (d j : Nat) (x : Int), j + d = P.length → 1 ≤ x → x ≤ 4 → (3 ≤ x → p ≠ -1 ∧ rd K p = 1 ∧ ∃ m, m < K.length ∧ P.getD m 0 = p ∧ solidB (K.getD m 0) = true) →
      Ex (fun k => imprimaturlaw06_Of.l1 k l K P (i : Int) p x (P.length : Int) (j : Int)) (OfPost l) := by
  have hP := h.1
  intro d
  induction d with
  | zero =>
    intro j x hj hx1 hx4 hx
    refine Ex.st (next (K ++ [x]) (P ++ [p]) (h.app hx1 hx4 hp0 hp1 hp hx) (by simp; omega)) (fun k => ?_)
    simp only [imprimaturlaw06_Of.l1]
    rw [if_neg (by omega), if_pos (by omega), if_pos (by omega), w1 i (by omega)]
  | succ d ih =>
    intro j x hj hx1 hx4 hx
    have same := ih (j + 1) x (by omega) hx1 hx4 hx
    have hw := w1 j (by omega)
    by_cases c1 : P.getD j 0 = p
    · by_cases c2 : K.getD j 0 ≤ 2
      · by_cases c3 : p ≥ 0
        · by_cases c4 : rd K p = 1
          · have hv := Int.emod_nonneg (wrap64 (Int.tdiv (rd l (i : Int)) 96)) (show (2 : Int) ≠ 0 by omega)
            have hv' := Int.emod_lt_of_pos (wrap64 (Int.tdiv (rd l (i : Int)) 96)) (show (0 : Int) < 2 by omega)
            obtain ⟨v, hev⟩ : ∃ v, wrap64 (Int.tdiv (rd l (i : Int)) 96) % 2 = v := ⟨_, rfl⟩
            rw [hev] at hv hv'
            obtain ⟨a1, _⟩ := okS_iff.1 (h.2.2.1 j (by omega))
            refine Ex.st (ih (j + 1) (3 + v) (by omega) (by omega) (by omega) (fun _ => ⟨by omega, c4, j, by omega, c1, solidB_iff.2 (by omega)⟩)) (fun k => ?_)
            simp only [imprimaturlaw06_Of.l1]
            rw [if_pos (by omega), if_pos (by omega), if_pos (by omega), rd_nat, if_pos c1, if_pos (by omega), rd_nat, if_pos c2, if_pos c3, if_pos c3, if_pos (by omega), if_pos c4, if_pos (by omega), if_pos (by omega), within_f _ _ (by omega) (by omega), Option.bind_some, hev, w64 (x := 3 + v) (by omega) (by omega), hw]
          · refine Ex.st same (fun k => ?_)
            simp only [imprimaturlaw06_Of.l1]
            rw [if_pos (by omega), if_pos (by omega), if_pos (by omega), rd_nat, if_pos c1, if_pos (by omega), rd_nat, if_pos c2, if_pos c3, if_pos c3, if_pos (by omega), if_neg c4, hw]
        · refine Ex.st same (fun k => ?_)
          simp only [imprimaturlaw06_Of.l1]
          rw [if_pos (by omega), if_pos (by omega), if_pos (by omega), rd_nat, if_pos c1, if_pos (by omega), rd_nat, if_pos c2, if_neg c3, hw]
      · refine Ex.st same (fun k => ?_)
        simp only [imprimaturlaw06_Of.l1]
        rw [if_pos (by omega), if_pos (by omega), if_pos (by omega), rd_nat, if_pos c1, if_pos (by omega), rd_nat, if_neg c2, hw]
    · refine Ex.st same (fun k => ?_)
      simp only [imprimaturlaw06_Of.l1]
      rw [if_pos (by omega), if_pos (by omega), if_pos (by omega), rd_nat, if_neg c1, hw]

theorem of_j3 (l : List Int) (i : Nat) (hi1 : i < l.length) (hi : i < 12) (K P : List Int) (h : Inv K P) (hn : K.length = i) (p : Int) (hp0 : -1 ≤ p) (hp1 : p < K.length) (hp : p = -1 ∨ solidB (rd K p) = true) (next : Next l i) :
    Ex (fun k => imprimaturlaw06_Of.j3 k l K P (i : Int) p) (OfPost l) := by
  have hP := h.1
  have hw := w1 i (by omega)
  obtain ⟨t, ht⟩ : ∃ t, wrap64 (Int.tdiv (rd l (i : Int)) 16) % 6 = t := ⟨_, rfl⟩
  have j5 : ∀ b : Bool, Ex (fun k => imprimaturlaw06_Of.j5 k l K P (i : Int) p 1 b) (OfPost l) := by
    intro b
    cases b with
    | true =>
      refine Ex.st (of_l1 l i hi1 hi K P h hn p hp0 hp1 hp next P.length 0 1 (by omega) (by omega) (by omega) (fun h => by omega)) (fun k => ?_)
      simp only [imprimaturlaw06_Of.j5]
      rw [if_pos trivial]; rfl
    | false =>
      refine Ex.st (next (K ++ [1]) (P ++ [p]) (h.app (by omega) (by omega) hp0 hp1 hp (fun h => by omega)) (by simp; omega)) (fun k => ?_)
      simp only [imprimaturlaw06_Of.j5]
      rw [if_neg (by simp), if_pos (by omega), if_pos (by omega), hw]
  have j4 : ∀ b : Bool, Ex (fun k => imprimaturlaw06_Of.j4 k l K P (i : Int) p 1 t b) (OfPost l) := by
    intro b
    cases b with
    | true =>
      refine Ex.st (next (K ++ [2]) (P ++ [p]) (h.app (by omega) (by omega) hp0 hp1 hp (fun h => by omega)) (by simp; omega)) (fun k => ?_)
      simp only [imprimaturlaw06_Of.j4]
      rw [if_pos trivial, if_pos (by omega), if_pos (by omega), hw]
    | false =>
      by_cases h2 : t = 2
      · refine Ex.st (j5 (t == 2)) (fun k => ?_)
        simp only [imprimaturlaw06_Of.j4]
        rw [if_neg (by simp), if_pos h2]
      · refine Ex.st (j5 (t == 3)) (fun k => ?_)
        simp only [imprimaturlaw06_Of.j4]
        rw [if_neg (by simp), if_neg h2]
  by_cases h0 : t = 0
  · refine Ex.st (j4 (t == 0)) (fun k => ?_)
    simp only [imprimaturlaw06_Of.j3]
    rw [if_pos (by omega), if_pos (by omega), within_f _ _ (by omega) (by omega), Option.bind_some, ht, if_pos h0]
  · refine Ex.st (j4 (t == 1)) (fun k => ?_)
    simp only [imprimaturlaw06_Of.j3]
    rw [if_pos (by omega), if_pos (by omega), within_f _ _ (by omega) (by omega), Option.bind_some, ht, if_neg h0]

theorem of_l0 (l : List Int) (hl : l.length < 17592186044416) : ∀ (d i : Nat) (K P : List Int), Inv K P → K.length = i → i ≤ max 1 (min l.length 12) → i + d = max 1 (min l.length 12) →
    Ex (fun k => imprimaturlaw06_Of.l0 k l K P (i : Int)) (OfPost l) := by
  intro d
  induction d with
  | zero =>
    intro i K P h hn hi hd
    refine Ex.st (of_fin l hl K P h (by omega) (i : Int)) (fun k => ?_)
    simp only [imprimaturlaw06_Of.l0]
    by_cases hlt : (i : Int) < (l.length : Int)
    · rw [if_pos hlt, decide_eq_false (by omega)]
    · rw [if_neg hlt]
  | succ d ih =>
    intro i K P h hn hi hd
    have h1 := h.2.1
    have next : Next l i := fun K' P' h' hn' => ih (i + 1) K' P' h' hn' (by omega) (by omega)
    obtain ⟨v, hv⟩ : ∃ v, rd l (i : Int) % ((i + 1 : Nat) : Int) = v := ⟨_, rfl⟩
    have hv0 := Int.emod_nonneg (rd l (i : Int)) (show ((i + 1 : Nat) : Int) ≠ 0 by omega)
    have hv1 := Int.emod_lt_of_pos (rd l (i : Int)) (show 0 < ((i + 1 : Nat) : Int) by omega)
    rw [hv] at hv0 hv1
    have hwv : wrap64 (v - 1) = v - 1 := w64 (by omega) (by omega)
    have j2 : ∀ b : Bool, (b = false → v - 1 = -1 ∨ solidB (rd K (v - 1)) = true) → Ex (fun k => imprimaturlaw06_Of.j2 k l K P (i : Int) (v - 1) b) (OfPost l) := by
      intro b hb
      cases b with
      | true =>
        refine Ex.st (of_j3 l i (by omega) (by omega) K P h hn (-1) (by omega) (by omega) (.inl rfl) next) (fun k => ?_)
        simp only [imprimaturlaw06_Of.j2]
        rw [if_pos trivial]
      | false =>
        refine Ex.st (of_j3 l i (by omega) (by omega) K P h hn (v - 1) (by omega) (by omega) (hb rfl) next) (fun k => ?_)
        simp only [imprimaturlaw06_Of.j2]
        rw [if_neg (by simp)]
    have j1 : Ex (fun k => imprimaturlaw06_Of.j1 k l K P (i : Int) true) (OfPost l) := by
      by_cases hc : v - 1 ≥ 0
      · refine Ex.st (j2 (decide (rd K (v - 1) ≥ 3)) (fun hb => ?_)) (fun k => ?_)
        · have h3 := of_decide_eq_false hb
          right
          obtain ⟨a, _⟩ := okS_iff.1 (h.2.2.1 (v - 1).toNat (by omega))
          exact solidB_iff.2 (by unfold rd at h3 ⊢; omega)
        · simp only [imprimaturlaw06_Of.j1]
          rw [if_pos trivial, if_pos (by omega), if_pos (by omega), w1 i (by omega), within_f _ _ (by omega) (by omega), Option.bind_some, hv, hwv, if_pos hc, if_pos hc, if_pos (by omega)]
      · refine Ex.st (j2 false (fun _ => .inl (by omega))) (fun k => ?_)
        simp only [imprimaturlaw06_Of.j1]
        rw [if_pos trivial, if_pos (by omega), if_pos (by omega), w1 i (by omega), within_f _ _ (by omega) (by omega), Option.bind_some, hv, hwv, if_neg hc]
    refine Ex.st j1 (fun k => ?_)
    simp only [imprimaturlaw06_Of.l0]
    rw [if_pos (by omega), decide_eq_true (by omega)]

theorem Inv.one : Inv [1] [-1] := by
  refine ⟨rfl, by simp, fun i hi => ?_, fun i hi h3 => ?_, rfl, rfl⟩
  · obtain rfl : i = 0 := by simp at hi; exact hi
    decide
  · obtain rfl : i = 0 := by simp at hi; exact hi
    simp at h3
theorem of_f (l : List Int) (hl : l.length < 17592186044416) : Ex (fun k => imprimaturlaw06_Of.f k l) (OfPost l) := by
  unfold imprimaturlaw06_Of.f
  exact of_l0 l hl (max 1 (min l.length 12) - 1) 1 [1] [-1] Inv.one rfl (by omega) (by omega)
end Go.Proofs.Ytnomeokicfpidaa.M
/-
  How many configurations a shape has: as many as the law counts by multiplying and adding. Conditions: a shape as Of makes it, of at most 24 states.
-/
namespace Go.Proofs.Ytnomeokicfpidaa.M
open Go.RowKit Go.Proofs.YtnomeokicfpidaaW.PrintWords Go.Proofs.YtnomeokicfpidaaW.PrintLast Go.Proofs.YtnomeokicfpidaaW.PrintMore Go.Proofs.Ytnomeokicfpidaa.Q
set_option linter.unusedVariables false

theorem nodup_prodL {F : Int → List Nat} {D : Int → Nat → Prop} : ∀ {L : List Int}, L.Nodup → (∀ k ∈ L, (F k).Nodup) → (∀ k ∈ L, ∀ x ∈ F k, ∀ j, x.testBit j = true → D k j) →
    (∀ k ∈ L, ∀ m ∈ L, ∀ j, D k j → D m j → k = m) → (prodL (L.map F)).Nodup
  | [], _, _, _, _ => by simp [prodL]
  | x :: L, hd, hn, hb, hD => by
    obtain ⟨h1, h2⟩ := List.nodup_cons.1 hd
    have ih := nodup_prodL h2 (fun k hk => hn k (List.mem_cons_of_mem _ hk)) (fun k hk => hb k (List.mem_cons_of_mem _ hk)) (fun k hk m hm => hD k (List.mem_cons_of_mem _ hk) m (List.mem_cons_of_mem _ hm))
    have rest : ∀ y ∈ prodL (L.map F), ∀ j, y.testBit j = true → ¬ D x j := by
      intro y hy j hj hx
      obtain ⟨g, hg, rfl⟩ := (mem_prodL h2).1 hy
      obtain ⟨k, hk, hkj⟩ := tb_orL.1 hj
      have := hD x (List.mem_cons_self ..) k (List.mem_cons_of_mem _ hk) j hx (hb k (List.mem_cons_of_mem _ hk) _ (hg k hk) j hkj)
      exact h1 (this ▸ hk)
    have mine : ∀ a ∈ F x, ∀ j, a.testBit j = true → D x j := hb x (List.mem_cons_self ..)
    simp only [List.map_cons, prodL]
    unfold List.Nodup
    rw [List.pairwise_flatMap]
    refine ⟨fun a ha => ?_, ?_⟩
    · rw [List.pairwise_map]
      refine List.Pairwise.imp_of_mem ?_ ih
      intro y z hy hz hne e
      refine hne (Nat.eq_of_testBit_eq fun j => ?_)
      have ej : (a ||| y).testBit j = (a ||| z).testBit j := by rw [e]
      rw [Nat.testBit_or, Nat.testBit_or] at ej
      by_cases haj : a.testBit j = true
      · have hx := mine a ha j haj
        have e1 : y.testBit j = false := eq_false_of_ne_true fun h => rest y hy j h hx
        have e2 : z.testBit j = false := eq_false_of_ne_true fun h => rest z hz j h hx
        rw [e1, e2]
      · rw [eq_false_of_ne_true haj, Bool.false_or, Bool.false_or] at ej; exact ej
    · refine List.Pairwise.imp_of_mem ?_ (hn x (List.mem_cons_self ..))
      intro a b ha hb' hne u hu v hv e
      obtain ⟨y, hy, rfl⟩ := List.mem_map.1 hu
      obtain ⟨z, hz, rfl⟩ := List.mem_map.1 hv
      refine hne (Nat.eq_of_testBit_eq fun j => ?_)
      have ej : (a ||| y).testBit j = (b ||| z).testBit j := by rw [e]
      rw [Nat.testBit_or, Nat.testBit_or] at ej
      rw [Bool.eq_iff_iff]
      constructor
      · intro h
        rw [h, Bool.true_or] at ej
        have := ej.symm
        rw [Bool.or_eq_true] at this
        rcases this with h' | h'
        · exact h'
        · exact absurd (mine a ha j h) (rest z hz j h')
      · intro h
        rw [h, Bool.true_or, Bool.or_eq_true] at ej
        rcases ej with h' | h'
        · exact h'
        · exact absurd (mine b hb' j h) (rest y hy j h')

section
variable {K P : List Int} (hI : Inv K P)
include hI
theorem kid_nat {a x : Int} (hx : x ∈ sk K P a) : ∃ k : Nat, x = k ∧ k < K.length ∧ P.getD k 0 = a ∧ solidB (K.getD k 0) = true := by
  obtain ⟨h1, h2⟩ := List.mem_filter.1 hx
  obtain ⟨m, rfl, m1, m2⟩ := mem_kids.1 h1
  rw [rd_nat] at h2
  exact ⟨m, rfl, by have := hI.1; omega, m2, h2⟩
theorem nodup_confs : ∀ (f : Nat) (a : Int), -1 ≤ a → a < K.length → (K.length : Int) - a ≤ f → (confs K P f a).Nodup := by
  have hT := hI.tree
  have hn := hI.1
  intro f
  induction f with
  | zero => intro a h0 h1 h2; omega
  | succ f ih =>
    intro a h0 h1 h2
    rw [confs]
    by_cases hs : sk K P a = []
    · rw [if_pos hs]; simp
    · rw [if_neg hs]
      have hnd : (sk K P a).Nodup := List.Pairwise.filter _ (kids_nodup P a)
      have inner : ∀ x ∈ sk K P a, ((confs K P f x).map (fun s => 2 ^ x.toNat ||| s)).Nodup ∧ ∀ y ∈ (confs K P f x).map (fun s => 2 ^ x.toNat ||| s), ∀ j : Nat, y.testBit j = true → Un P (j : Int) x := by
        intro x hx
        obtain ⟨k, rfl, k1, k2, k3⟩ := kid_nat hI hx
        have hka := hT k (by omega)
        have hm := mem_confs hI f (k : Int) (by omega) (by omega) (by omega)
        constructor
        · unfold List.Nodup
          rw [List.pairwise_map]
          refine List.Pairwise.imp_of_mem ?_ (ih (k : Int) (by omega) (by omega) (by omega))
          intro y z hy hz hne e
          refine hne (Nat.eq_of_testBit_eq fun j => ?_)
          have hy' := ((hm y).1 hy).mem k
          have hz' := ((hm z).1 hz).mem k
          by_cases e' : k = j
          · subst e'
            rw [eq_false_of_ne_true fun h => (hy' h).2.1 rfl, eq_false_of_ne_true fun h => (hz' h).2.1 rfl]
          · have ej : (2 ^ (k : Int).toNat ||| y).testBit j = (2 ^ (k : Int).toNat ||| z).testBit j := by rw [e]
            rw [Nat.testBit_or, Nat.testBit_or, Int.toNat_natCast, Nat.testBit_two_pow, decide_eq_false e', Bool.false_or, Bool.false_or] at ej
            exact ej
        · intro y hy j hj
          obtain ⟨t, ht, rfl⟩ := List.mem_map.1 hy
          rw [Int.toNat_natCast, tb_or] at hj
          rcases hj with rfl | hj
          · exact .refl _
          · exact (((hm t).1 ht).mem j hj).2.2.1
      by_cases ha : 0 ≤ a ∧ rd K a = 2
      · rw [if_pos ha]
        refine nodup_prodL (D := fun k j => Un P (j : Int) k) hnd (fun k hk => (inner k hk).1) (fun k hk y hy j hj => (inner k hk).2 y hy j hj) ?_
        intro k hk m hm j h h'
        obtain ⟨k, rfl, k1, k2, _⟩ := kid_nat hI hk
        obtain ⟨m, rfl, m1, m2, _⟩ := kid_nat hI hm
        have := Un.sib hT (by omega) (by omega) k2 m2 h h'
        omega
      · rw [if_neg ha]
        unfold List.Nodup
        rw [List.pairwise_flatMap]
        refine ⟨fun k hk => (inner k hk).1, ?_⟩
        refine List.Pairwise.imp_of_mem ?_ hnd
        intro x y hx hy hne u hu v hv e
        subst e
        obtain ⟨k, rfl, k1, k2, _⟩ := kid_nat hI hx
        obtain ⟨m, rfl, m1, m2, _⟩ := kid_nat hI hy
        have hb : u.testBit k = true := by
          obtain ⟨t, _, rfl⟩ := List.mem_map.1 hu
          rw [Int.toNat_natCast, tb_or]; exact .inl rfl
        have := Un.sib hT (by omega) (by omega) k2 m2 (.refl _) ((inner _ hy).2 u hv k hb)
        exact hne (by omega)
omit hI in
theorem confs_ne : ∀ (f : Nat) (a : Int), confs K P f a ≠ [] := by
  intro f
  induction f with
  | zero => intro a; simp [confs]
  | succ f ih =>
    intro a
    rw [confs]
    by_cases hs : sk K P a = []
    · rw [if_pos hs]; simp
    · rw [if_neg hs]
      by_cases ha : 0 ≤ a ∧ rd K a = 2
      · rw [if_pos ha]
        have : ∀ L : List Int, prodL (L.map (fun k => (confs K P f k).map (fun s => 2 ^ k.toNat ||| s))) ≠ [] := by
          intro L
          induction L with
          | nil => simp [prodL]
          | cons x L ihL =>
            obtain ⟨u, hu⟩ := List.exists_mem_of_ne_nil _ (ih x)
            obtain ⟨v, hv⟩ := List.exists_mem_of_ne_nil _ ihL
            simp only [List.map_cons, prodL]
            exact List.ne_nil_of_mem (List.mem_flatMap.2 ⟨_, List.mem_map.2 ⟨u, hu, rfl⟩, List.mem_map.2 ⟨v, hv, rfl⟩⟩)
        exact this _
      · rw [if_neg ha]
        obtain ⟨x, hx⟩ := List.exists_mem_of_ne_nil _ hs
        obtain ⟨u, hu⟩ := List.exists_mem_of_ne_nil _ (ih x)
        exact List.ne_nil_of_mem (List.mem_flatMap.2 ⟨x, hx, List.mem_map.2 ⟨u, hu, rfl⟩⟩)
theorem confs_len {f : Nat} {a : Int} (h0 : -1 ≤ a) (h1 : a < K.length) (h2 : (K.length : Int) - a ≤ f) : (confs K P f a).length ≤ 2 ^ K.length := by
  have := (nodup_confs hI f a h0 h1 h2).length_le_of_subset (l₂ := List.range (2 ^ K.length)) (fun s hs => by
    rw [List.mem_range]
    have hL := (mem_confs hI f a h0 h1 h2 s).1 hs
    refine Nat.lt_pow_two_of_testBit s (fun i hi => eq_false_of_ne_true fun h => ?_)
    have := (hL.mem i h).1
    omega)
  rwa [List.length_range] at this

/-- The solid states of one, from i on. -/
def skL (K P : List Int) (a : Int) (i d : Nat) : List Nat := (List.range' i d).filter (fun j => decide (P.getD j 0 = a) && solidB (K.getD j 0))
omit hI in
theorem skL_all (K P : List Int) (a : Int) : sk K P a = (skL K P a 0 P.length).map (fun j : Nat => (j : Int)) := by
  unfold sk skL kids kidsFrom
  rw [List.filter_map, List.filter_filter]
  congr 1
  refine List.filter_congr fun j _ => ?_
  simp only [Function.comp, rd_nat, Bool.and_comm]
omit hI in
theorem skL_succ (K P : List Int) (a : Int) (i d : Nat) : skL K P a i (d + 1) = if P.getD i 0 = a ∧ solidB (K.getD i 0) = true then i :: skL K P a (i + 1) d else skL K P a (i + 1) d := by
  unfold skL
  rw [List.range'_succ, List.filter_cons]
  by_cases h : P.getD i 0 = a ∧ solidB (K.getD i 0) = true
  · rw [if_pos h, if_pos (by rw [decide_eq_true h.1, h.2]; rfl)]
  · rw [if_neg h, if_neg (by rw [Bool.and_eq_true, decide_eq_true_eq]; exact h)]
omit hI in
theorem prodL_len : ∀ (Xs : List (List Nat)), (prodL Xs).length = (Xs.map List.length).prod
  | [] => rfl
  | X :: Xs => by
    rw [prodL, List.map_cons, List.prod_cons, ← prodL_len Xs]
    induction X with
    | nil => simp
    | cons x X ih => rw [List.flatMap_cons, List.length_append, List.length_map, ih, List.length_cons, Nat.succ_mul, Nat.add_comm]

theorem ways_l0 (a : Int) (W : Nat → Nat) (hW : ∀ k : Nat, k < K.length → P.getD k 0 = a → solidB (K.getD k 0) = true → 1 ≤ W k ∧ Ev (fun n => imprimaturlaw06_ways.f n K P (k : Int)) (W k : Int))
    (h24 : K.length ≤ 24) (ha : a < K.length) : ∀ (d i : Nat) (S Pr : Int) (any : Bool), i + d = K.length →
      (¬ (0 ≤ a ∧ rd K a = 2) → 0 ≤ S ∧ S + (((skL K P a i d).map W).sum : Nat) ≤ 4611686018427387904) →
      ((0 ≤ a ∧ rd K a = 2) → 0 ≤ Pr ∧ Pr * (((skL K P a i d).map W).prod : Nat) ≤ 4611686018427387904) →
      Ev (fun n => imprimaturlaw06_ways.l0 n a S Pr any (K.length : Int) (i : Int) K P)
        (if (any || !(skL K P a i d).isEmpty) = true then (if 0 ≤ a ∧ rd K a = 2 then Pr * (((skL K P a i d).map W).prod : Nat) else S + (((skL K P a i d).map W).sum : Nat)) else 1) := by
  have hn := hI.1
  intro d
  induction d with
  | zero =>
    intro i S Pr any hi hS hP
    refine Ev.ret (fun k => ?_)
    simp only [imprimaturlaw06_ways.l0]
    rw [if_neg (by omega)]
    have e : skL K P a i 0 = [] := by simp [skL]
    rw [e]
    cases any with
    | true =>
      simp only [if_true, List.map_nil, List.prod_nil, List.sum_nil, Bool.true_or]
      by_cases h0 : 0 ≤ a
      · rw [if_pos h0, if_pos h0, if_pos ha]
        by_cases h2 : rd K a = 2
        · rw [if_pos h2, if_pos ⟨h0, h2⟩]; simp
        · rw [if_neg h2, if_neg (fun h => h2 h.2)]; simp
      · rw [if_neg h0, if_neg (fun h => h0 h.1)]; simp
    | false => simp
  | succ d ih =>
    intro i S Pr any hi hS hP
    have hw := w1 i (by omega)
    rw [skL_succ] at hS hP ⊢
    by_cases hk : P.getD i 0 = a ∧ solidB (K.getD i 0) = true
    · rw [if_pos hk] at hS hP ⊢
      obtain ⟨hk1, hk2⟩ := hk
      obtain ⟨w1', w2⟩ := hW i (by omega) hk1 hk2
      simp only [List.map_cons, List.sum_cons, List.prod_cons] at hS hP ⊢
      generalize hs : ((skL K P a (i + 1) d).map W).sum = s at hS ih ⊢
      have hsol := solidB_iff.1 hk2
      have hpp : 1 ≤ ((skL K P a (i + 1) d).map W).prod := by
        have : ∀ L : List Nat, (∀ j ∈ L, 1 ≤ W j) → 1 ≤ (L.map W).prod := by
          intro L
          induction L with
          | nil => intro _; simp
          | cons x L ihL =>
            intro h
            rw [List.map_cons, List.prod_cons]
            exact Nat.mul_pos (h x (List.mem_cons_self ..)) (ihL fun j hj => h j (List.mem_cons_of_mem _ hj))
        refine this _ (fun j hj => ?_)
        unfold skL at hj
        obtain ⟨j1, j2⟩ := List.mem_filter.1 hj
        rw [List.mem_range'_1] at j1
        rw [Bool.and_eq_true, decide_eq_true_eq] at j2
        exact (hW j (by omega) j2.1 j2.2).1
      generalize hp : ((skL K P a (i + 1) d).map W).prod = p at hP hpp ih ⊢
      have eS : ¬ (0 ≤ a ∧ rd K a = 2) → wrap64 (S + (W i : Int)) = S + (W i : Int) := fun h => by
        have := hS h
        exact w64 (by omega) (by omega)
      have eP : (0 ≤ a ∧ rd K a = 2) → wrap64 (Pr * (W i : Int)) = Pr * (W i : Int) := fun h => by
        obtain ⟨q0, q1⟩ := hP h
        have q2 : 0 ≤ Pr * (W i : Int) := Int.mul_nonneg q0 (by omega)
        have q3 : Pr * (W i : Int) * 1 ≤ Pr * (W i : Int) * (p : Int) := Int.mul_le_mul_of_nonneg_left (by omega) q2
        rw [Int.natCast_mul, ← Int.mul_assoc] at q1
        exact w64 (by omega) (by omega)
      refine Ev.st (f := fun n => (imprimaturlaw06_ways.f n K P (i : Int)).bind fun t => imprimaturlaw06_ways.l0 n a (wrap64 (S + t)) (wrap64 (Pr * t)) true (K.length : Int) ((i + 1 : Nat) : Int) K P) (Ev.bd w2 ?_) (fun k => ?_)
      · refine Ev.val (ih (i + 1) _ _ true (by omega) (fun h => ?_) (fun h => ?_)) ?_
        · rw [eS h]
          have := hS h
          omega
        · rw [eP h]
          obtain ⟨q0, q1⟩ := hP h
          refine ⟨Int.mul_nonneg q0 (by omega), ?_⟩
          rw [Int.mul_assoc, ← Int.natCast_mul, hp]; exact q1
        · have e : (any || !(i :: skL K P a (i + 1) d).isEmpty) = true := by simp
          rw [e, Bool.true_or, if_pos rfl, if_pos rfl]
          by_cases h : 0 ≤ a ∧ rd K a = 2
          · rw [if_pos h, if_pos h, eP h, Int.mul_assoc, ← Int.natCast_mul, hp]
          · rw [if_neg h, if_neg h, eS h, hs]; omega
      · simp only [imprimaturlaw06_ways.l0]
        rw [if_pos (by omega), if_pos (by omega), if_pos (by omega), rd_nat, if_pos hk1, if_pos (by omega), rd_nat, if_neg (by omega), hw]
    · rw [if_neg hk] at hS hP ⊢
      refine Ev.st (ih (i + 1) S Pr any (by omega) hS hP) (fun k => ?_)
      simp only [imprimaturlaw06_ways.l0]
      rw [if_pos (by omega), if_pos (by omega), if_pos (by omega), rd_nat, hw]
      by_cases h1 : P.getD i 0 = a
      · have h3 : K.getD i 0 ≥ 3 := by
          obtain ⟨b1, b2, _⟩ := okS_iff.1 (hI.2.2.1 i (by omega))
          have : ¬ (K.getD i 0 = 1 ∨ K.getD i 0 = 2) := fun h => hk ⟨h1, solidB_iff.2 h⟩
          omega
        rw [if_pos h1, if_pos (by omega), rd_nat, if_pos h3]
      · rw [if_neg h1]

theorem ways_f (h24 : K.length ≤ 24) : ∀ (f : Nat) (a : Int), -1 ≤ a → a < K.length → (K.length : Int) - a ≤ f → Ev (fun n => imprimaturlaw06_ways.f n K P a) ((confs K P f a).length : Int) := by
  have hT := hI.tree
  have hn := hI.1
  intro f
  induction f with
  | zero => intro a h0 h1 h2; omega
  | succ f ih =>
    intro a h0 h1 h2
    have hlen := confs_len hI h0 h1 h2
    have hbig : (2 : Nat) ^ K.length ≤ 2 ^ 24 := Nat.pow_le_pow_right (by decide) h24
    have hb : (confs K P (f + 1) a).length ≤ 16777216 := Nat.le_trans hlen hbig
    clear hlen hbig
    have e0 : skL K P a 0 K.length = skL K P a 0 P.length := by rw [hn]
    have eS : ¬ (0 ≤ a ∧ rd K a = 2) → sk K P a ≠ [] → (confs K P (f + 1) a).length = ((skL K P a 0 K.length).map (fun k : Nat => (confs K P f (k : Int)).length)).sum := by
      intro ha hs
      rw [confs, if_neg hs, if_neg ha, List.length_flatMap, skL_all, e0, List.map_map]
      congr 1
      refine List.map_congr_left fun k _ => ?_
      simp
    have eP : (0 ≤ a ∧ rd K a = 2) → sk K P a ≠ [] → (confs K P (f + 1) a).length = ((skL K P a 0 K.length).map (fun k : Nat => (confs K P f (k : Int)).length)).prod := by
      intro ha hs
      rw [confs, if_neg hs, if_pos ha, prodL_len, skL_all, e0, List.map_map, List.map_map]
      congr 1
      refine List.map_congr_left fun k _ => ?_
      simp
    have emp : sk K P a = [] → skL K P a 0 K.length = [] := fun h => by
      rw [skL_all] at h
      rw [e0]; exact List.map_eq_nil_iff.1 h
    refine Ev.st (Ev.val (ways_l0 hI a (fun k : Nat => (confs K P f (k : Int)).length) (fun k hk ek sk' => ⟨?_, ?_⟩) h24 h1 K.length 0 0 1 false (by omega) (fun ha => ?_) (fun ha => ?_)) ?_) (fun n => by simp only [imprimaturlaw06_ways.f]; rfl)
    · exact List.length_pos_iff.2 (confs_ne f _)
    · have := hT k (by omega)
      exact ih (k : Int) (by omega) (by omega) (by omega)
    · by_cases hs : sk K P a = []
      · rw [emp hs]; simp
      · rw [← eS ha hs]; omega
    · by_cases hs : sk K P a = []
      · rw [emp hs]; simp
      · rw [← eP ha hs]; omega
    · by_cases hs : sk K P a = []
      · rw [emp hs, confs, if_pos hs]; simp
      · have ne : (skL K P a 0 K.length).isEmpty = false := by
          cases h : skL K P a 0 K.length with
          | nil => exact absurd (by rw [skL_all, ← e0, h]; rfl) hs
          | cons x l => rfl
        rw [ne, if_pos (by simp)]
        by_cases ha : 0 ≤ a ∧ rd K a = 2
        · rw [if_pos ha, eP ha hs]; omega
        · rw [if_neg ha, eS ha hs]; omega
end
end Go.Proofs.Ytnomeokicfpidaa.M
/-
  The law ShapeCounts, pure: a shape has as many configurations as its regions, multiplied, and its alternatives, added, tell. Conditions: those of the given statement.
-/
namespace Go.Proofs.Ytnomeokicfpidaa.Pure
open Go.RowKit Go.Proofs.YtnomeokicfpidaaW.PrintWords Go.Proofs.YtnomeokicfpidaaW.PrintLast Go.Proofs.YtnomeokicfpidaaW.PrintMore Go.Proofs.Ytnomeokicfpidaa.Q Go.Proofs.Ytnomeokicfpidaa.M
set_option linter.unusedVariables false

theorem proper_LP {K P : List Int} (hI : Inv K P) (s : Nat) : properB K P s = true ↔ LP K P (-1) s := by
  have hT := hI.tree
  have hn := hI.1
  unfold properB
  rw [Bool.and_eq_true, decide_eq_true_eq, Bool.and_eq_true, List.all_eq_true]
  constructor
  · rintro ⟨h1, h2, h3⟩
    have h3' : ∀ j : Nat, s.testBit j = true → j < K.length ∧ atB K P s j = true := by
      intro j hj
      have : j < K.length := by
        rcases Nat.lt_or_ge j K.length with h | h
        · exact h
        · have := Nat.testBit_lt_two_pow (Nat.lt_of_lt_of_le h1 (Nat.pow_le_pow_right (by decide : 0 < 2) h))
          rw [hj] at this; cases this
      exact ⟨this, h3 j (List.mem_range'_1.2 ⟨by omega, by omega⟩)⟩
    have at' : ∀ j : Nat, s.testBit j = true → solidB (K.getD j 0) = true ∧ (P.getD j 0 = -1 ∨ s.testBit (P.getD j 0).toNat = true) ∧ heldB K P s (j : Int) (K.getD j 0 == 1) = true := by
      intro j hj
      have := (h3' j hj).2
      unfold atB at this
      rw [hj, Bool.not_true, Bool.false_or, Bool.and_eq_true, Bool.and_eq_true, Bool.or_eq_true, beq_iff_eq] at this
      exact this
    refine ⟨fun j hj => ?_, ?_, fun j hj => ?_⟩
    · have hjn := (h3' j hj).1
      obtain ⟨a1, a2, a3⟩ := at' j hj
      have ht := hT j (by omega)
      refine ⟨hjn, by omega, Un.top hT (j + 1) (j : Int) (by omega) (by omega) (by omega), a1, ?_⟩
      rcases a2 with a2 | a2
      · exact .inl a2
      · by_cases e : P.getD j 0 = -1
        · exact .inl e
        · exact .inr ⟨by omega, a2⟩
    · rw [show one K (-1) = true from rfl]; exact h2
    · rw [one_nat]; exact (at' j hj).2.2
  · intro h
    refine ⟨Nat.lt_pow_two_of_testBit s (fun i hi => eq_false_of_ne_true fun hb => by have := (h.mem i hb).1; omega), ?_, fun j hj => ?_⟩
    · have := h.own
      rwa [show one K (-1) = true from rfl] at this
    · unfold atB
      by_cases hb : s.testBit j = true
      · obtain ⟨b1, b2, b3, b4, b5⟩ := h.mem j hb
        have b6 := h.all j hb
        rw [one_nat] at b6
        rw [hb, b4, b6]
        rcases b5 with b5 | b5
        · rw [b5]; rfl
        · rw [b5.2]; simp
      · rw [eq_false_of_ne_true hb]; rfl

theorem count_l0 {K P : List Int} (hI : Inv K P) (h12 : K.length ≤ 12) : ∀ (d x c : Nat), x + d = 2 ^ K.length → c ≤ x →
    Ev (fun k => imprimaturlaw06_ShapeCounts.l0 k (c : Int) (x : Int) K P) (decide (c + ((List.range' x d).countP (properB K P)) = (confs K P (K.length + 1) (-1)).length)) := by
  have hn := hI.1
  have h1 := hI.2.1
  have hbig : (2 : Nat) ^ K.length ≤ 2 ^ 12 := Nat.pow_le_pow_right (by decide) h12
  have hb : (2 : Nat) ^ K.length ≤ 4096 := hbig
  clear hbig
  have hsh : shl .u32 1 (K.length : Int) = ((2 ^ K.length : Nat) : Int) := shl_one K.length (by omega)
  have hu := u64w K.length (by omega)
  have hp : ∀ j, j < K.length → -1 ≤ P.getD j 0 ∧ P.getD j 0 < K.length := fun j hj => by
    have := hI.tree j (by omega)
    omega
  generalize 2 ^ K.length = N at hb hsh
  intro d
  induction d with
  | zero =>
    intro x c hx hc
    have hw := ways_f hI (by omega) (K.length + 1) (-1) (by omega) (by omega) (by omega)
    refine Ev.st (f := fun k => (imprimaturlaw06_ways.f k K P (-1)).bind fun t119 => (if (c : Int) = t119 then ((imprimaturlaw06_wakes.f k).bind fun t120 => (some t120)) else (some false))) (Ev.bd hw ?_) (fun k => ?_)
    · simp only [List.range'_zero, List.countP_nil, Nat.add_zero]
      by_cases e : c = (confs K P (K.length + 1) (-1)).length
      · rw [decide_eq_true e]
        exact Ev.pos (by omega) (Ev.bd wakes6_f (Ev.now _))
      · rw [decide_eq_false e]
        exact Ev.neg (by omega) (Ev.now _)
    · simp only [imprimaturlaw06_ShapeCounts.l0]
      rw [hu, if_pos (by omega), hsh, if_neg (by omega)]
  | succ d ih =>
    intro x c hx hc
    have hpr := Proper_f K P hn (by omega) hp x (by omega)
    rw [List.range'_succ, List.countP_cons]
    refine Ev.st (f := fun k => (shape_Proper.f k K P (x : Int)).bind fun t118 => (if t118 = true then (imprimaturlaw06_ShapeCounts.l0 k (wrap64 ((c : Int) + 1)) (((x : Int) + 1) % 4294967296) K P) else (imprimaturlaw06_ShapeCounts.l0 k (c : Int) (((x : Int) + 1) % 4294967296) K P))) (Ev.bd hpr ?_) (fun k => ?_)
    · have ex : ((x : Int) + 1) % 4294967296 = ((x + 1 : Nat) : Int) := by omega
      rw [ex, w1 c (by omega)]
      refine Ev.iff (fun h => ?_) (fun h => ?_)
      · refine Ev.val (ih (x + 1) (c + 1) (by omega) (by omega)) ?_
        rw [if_pos h]
        congr 1
        exact propext (by omega)
      · refine Ev.val (ih (x + 1) c (by omega) (by omega)) ?_
        rw [if_neg h]; rfl
    · simp only [imprimaturlaw06_ShapeCounts.l0]
      rw [hu, if_pos (by omega), hsh, if_pos (by omega)]

theorem ShapeCounts : imprimaturlaw06_ShapeCounts.Pure := by
  intro l0 _ _ _
  refine Ev.rounds (r := true) ?_
  unfold imprimaturlaw06_ShapeCounts.f
  have h0 := cut_f l0 9 (by omega)
  rw [show ((9 : Nat) : Int) = 9 from rfl] at h0
  simp only [h0, Option.bind_some]
  obtain ⟨⟨K, P, K', P'⟩, hE, hI, e1, e2, hlen⟩ := of_f (l0.take 9) (by rw [List.length_take]; omega)
  rw [List.length_take] at hlen
  simp only at hI hlen
  refine Ev.bd hE ?_
  refine Ev.val (count_l0 hI (by omega) (2 ^ K.length) 0 0 (by omega) (Nat.le_refl _)) ?_
  rw [decide_eq_true_eq, Nat.zero_add, List.countP_eq_length_filter]
  have hd : ((List.range' 0 (2 ^ K.length)).filter (properB K P)).Nodup := List.Pairwise.filter _ (List.nodup_range' (s := 0) (n := 2 ^ K.length) 1)
  refine List.Perm.length_eq ((List.perm_ext_iff_of_nodup hd (nodup_confs hI (K.length + 1) (-1) (by omega) (by have := hI.2.1; omega) (by omega))).2 fun s => ?_)
  rw [List.mem_filter, mem_confs hI (K.length + 1) (-1) (by omega) (by have := hI.2.1; omega) (by omega), ← proper_LP hI, List.mem_range'_1]
  constructor
  · exact fun h => h.2
  · intro h
    refine ⟨⟨Nat.zero_le _, ?_⟩, h⟩
    have h' := h
    unfold properB at h'
    rw [Bool.and_eq_true, decide_eq_true_eq] at h'
    rw [Nat.zero_add]; exact h'.1
end Go.Proofs.Ytnomeokicfpidaa.Pure
/-
  What the statements' Config makes out of numbers: a configuration of the shape. Conditions: a shape as Of makes it, at most 12 states.
-/
namespace Go.Proofs.Ytnomeokicfpidaa.M
open Go.RowKit Go.Proofs.YtnomeokicfpidaaW.PrintWords Go.Proofs.YtnomeokicfpidaaW.PrintLast Go.Proofs.YtnomeokicfpidaaW.PrintMore Go.Proofs.Ytnomeokicfpidaa.Q
set_option linter.unusedVariables false
set_option linter.unusedSectionVars false

/-- A list without repetition of numbers from -1 to below n is not longer than n + 1. -/
theorem pigeon {L : List Int} (hd : L.Nodup) {n : Nat} (h : ∀ x ∈ L, -1 ≤ x ∧ x < n) : L.length ≤ n + 1 := by
  have hN : ((List.range' 0 (n + 1)).map (fun j : Nat => (j : Int) - 1)).Nodup := by
    unfold List.Nodup
    rw [List.pairwise_map]
    refine List.Pairwise.imp ?_ (List.nodup_range' (s := 0) (n := n + 1) 1)
    intro x y h e
    exact h (by omega)
  have hp : L.Perm (((List.range' 0 (n + 1)).map (fun j : Nat => (j : Int) - 1)).filter (fun x => decide (x ∈ L))) := by
    refine (List.perm_ext_iff_of_nodup hd (List.Pairwise.filter _ hN)).2 fun x => ?_
    rw [List.mem_filter, decide_eq_true_eq, List.mem_map]
    constructor
    · intro hx
      have := h x hx
      exact ⟨⟨(x + 1).toNat, List.mem_range'_1.2 ⟨by omega, by omega⟩, by omega⟩, hx⟩
    · exact fun h => h.2
  rw [hp.length_eq]
  refine Nat.le_trans (List.length_filter_le _ _) ?_
  rw [List.length_map, List.length_range']; exact Nat.le_refl _

def bs : List Int → Nat → Nat
  | [], s => s
  | x :: L, s => bs L (s ||| 2 ^ x.toNat)
theorem tb_bs {j : Nat} : ∀ {L : List Int} {s : Nat}, (∀ x ∈ L, 0 ≤ x) → ((bs L s).testBit j = true ↔ s.testBit j = true ∨ (j : Int) ∈ L)
  | [], s, _ => by simp [bs]
  | x :: L, s, h => by
    have h0 := h x (List.mem_cons_self ..)
    rw [bs, tb_bs (fun y hy => h y (List.mem_cons_of_mem _ hy)), Nat.or_comm, tb_or, List.mem_cons]
    constructor
    · rintro ((h | h) | h)
      · exact .inr (.inl (by omega))
      · exact .inl h
      · exact .inr (.inr h)
    · rintro (h | h | h)
      · exact .inl (.inr h)
      · exact .inl (.inl (by omega))
      · exact .inr h

structure CI (K P D T : List Int) (s : Nat) : Prop where
  nd : (D ++ T).Nodup
  el : ∀ x ∈ D ++ T, x = -1 ∨ (0 ≤ x ∧ x < K.length ∧ solidB (rd K x) = true ∧ rd P x ∈ D)
  bit : ∀ j : Nat, s.testBit j = true ↔ (j : Int) ∈ D ++ T
  hel : ∀ x ∈ D, heldB K P s x (one K x) = true
  top : (-1 : Int) ∈ D ++ T

section
variable {K P : List Int} (hI : Inv K P)
include hI

theorem CI.step {D T L : List Int} {a : Int} {s s' : Nat} (h : CI K P D (a :: T) s) (hL : ∀ x ∈ L, x ∈ sk K P a) (hd : L.Nodup)
    (hc : sk K P a = [] ∨ (one K a = true ∧ ∃ k, L = [k]) ∨ (one K a = false ∧ L = sk K P a)) (hs : ∀ j : Nat, s'.testBit j = true ↔ s.testBit j = true ∨ (j : Int) ∈ L) :
    CI K P (D ++ [a]) (T ++ L) s' := by
  have hn := hI.1
  have hk : ∀ x ∈ L, ∃ j : Nat, x = j ∧ j < P.length ∧ P.getD j 0 = a ∧ solidB (rd K x) = true := by
    intro x hx
    obtain ⟨h1, h2⟩ := List.mem_filter.1 (hL x hx)
    obtain ⟨j, e, b, c⟩ := mem_kids.1 h1
    exact ⟨j, e, b, c, h2⟩
  have haD : a ∉ D := fun e => (List.nodup_append.1 h.nd).2.2 a e a (List.mem_cons_self ..) rfl
  have hkn : ∀ x : Int, 0 ≤ x → rd P x = a → x ∉ D ++ a :: T := by
    intro x hx hp hm
    rcases h.el x hm with e | ⟨_, _, _, e⟩
    · omega
    · exact haD (hp ▸ e)
  have hap : ∀ x ∈ L, 0 ≤ x ∧ rd P x = a := by
    intro x hx
    obtain ⟨j, e, b, c, _⟩ := hk x hx
    rw [e, rd_nat]; exact ⟨by omega, c⟩
  have e1 : D ++ [a] ++ (T ++ L) = (D ++ a :: T) ++ L := by simp
  refine ⟨?_, ?_, ?_, ?_, ?_⟩
  · rw [e1]
    refine List.nodup_append.2 ⟨h.nd, hd, fun x hx y hy e => ?_⟩
    subst e
    exact hkn x (hap x hy).1 (hap x hy).2 hx
  · rw [e1]
    intro x hx
    rcases List.mem_append.1 hx with hx | hx
    · rcases h.el x hx with e | ⟨a1, a2, a3, a4⟩
      · exact .inl e
      · exact .inr ⟨a1, a2, a3, List.mem_append_left _ a4⟩
    · obtain ⟨j, e, b, c, d⟩ := hk x hx
      obtain ⟨f, g⟩ := hap x hx
      exact .inr ⟨f, by omega, d, by rw [g]; exact List.mem_append_right _ (List.mem_cons_self ..)⟩
  · rw [e1]
    intro j
    rw [hs, h.bit, List.mem_append (s := D ++ a :: T)]
  · intro x hx
    have hkx : ∀ y ∈ kids P x, 0 ≤ y ∧ rd P y = x := by
      intro y hy
      obtain ⟨j, e, b, c⟩ := mem_kids.1 hy
      rw [e, rd_nat]; exact ⟨by omega, c⟩
    rcases List.mem_append.1 hx with hx | hx
    · have := h.hel x hx
      rw [heldB_congr (s' := s)]
      · exact this
      · intro y hy
        obtain ⟨f, g⟩ := hkx y hy
        rw [Bool.eq_iff_iff, hs, show ((y.toNat : Nat) : Int) = y by omega]
        constructor
        · rintro (e | e)
          · exact e
          · have := (hap y e).2
            rw [g] at this
            rw [this] at hx
            exact absurd hx haD
        · exact .inl
    · rw [List.mem_singleton] at hx
      subst hx
      have hb : ∀ y ∈ kids P x, (s'.testBit y.toNat = true ↔ y ∈ L) := by
        intro y hy
        obtain ⟨f, g⟩ := hkx y hy
        rw [hs, h.bit, show ((y.toNat : Nat) : Int) = y by omega]
        constructor
        · rintro (e | e)
          · exact absurd e (hkn y f g)
          · exact e
        · exact .inr
      rcases hc with hc | ⟨h1, k, h2⟩ | ⟨h1, h2⟩
      · have e := sk_nil hI hc
        unfold heldB cnt
        rw [e]; simp
      · rw [h1]
        refine held_one.2 (.inr ⟨k, ?_, ?_, ?_⟩)
        · exact (List.mem_filter.1 (hL k (by rw [h2]; exact List.mem_cons_self ..))).1
        · exact (hb k (List.mem_filter.1 (hL k (by rw [h2]; exact List.mem_cons_self ..))).1).2 (by rw [h2]; exact List.mem_cons_self ..)
        · intro m hm hbm
          have := (hb m hm).1 hbm
          rw [h2, List.mem_singleton] at this
          exact this
      · rw [h1]
        refine held_all.2 fun m hm => (hb m hm).2 ?_
        rw [h2]
        refine List.mem_filter.2 ⟨hm, ?_⟩
        by_cases e : sk K P x = []
        · rw [sk_nil hI e] at hm; cases hm
        · obtain ⟨o1, o2⟩ := (one_false hI e).1 h1
          rcases (kid_par hI hm (by omega)).2.2.2 with z | z
          · exact z
          · omega
  · rw [e1]; exact List.mem_append_left _ h.top

theorem CI.len {D T : List Int} {s : Nat} (h : CI K P D T s) : D.length + T.length ≤ K.length + 1 := by
  rw [← List.length_append]
  refine pigeon h.nd fun x hx => ?_
  rcases h.el x hx with e | ⟨e, f, _⟩ <;> omega

theorem CI.done {D : List Int} {s : Nat} (h : CI K P D [] s) : LP K P (-1) s := by
  have hn := hI.1
  have hb := h.bit
  have he := h.el
  have ht := h.top
  rw [List.append_nil] at hb he ht
  refine ⟨fun j hj => ?_, h.hel (-1) ht, fun j hj => h.hel _ ((hb j).1 hj)⟩
  rcases he _ ((hb j).1 hj) with e | ⟨_, e1, e2, e3⟩
  · omega
  · rw [rd_nat] at e2 e3
    refine ⟨by omega, by omega, Un.top hI.tree (j + 1) (j : Int) (by omega) (by omega) (by omega), e2, ?_⟩
    rcases he _ e3 with f | ⟨f1, f2, _⟩
    · exact .inl f
    · exact .inr ⟨f1, (hb _).2 (by rw [show (((P.getD j 0).toNat : Nat) : Int) = P.getD j 0 by omega]; exact e3)⟩

theorem CI.lt {D T : List Int} {s : Nat} (h : CI K P D T s) : s < 2 ^ K.length := by
  refine Nat.lt_pow_two_of_testBit s (fun i hi => eq_false_of_ne_true fun hb => ?_)
  rcases h.el _ ((h.bit i).1 hb) with e | ⟨_, e, _⟩ <;> omega
end
end Go.Proofs.Ytnomeokicfpidaa.M
/-
  What the printed Config answers: a configuration of the shape. Conditions: a shape as Of makes it, at most 24 states.
-/
namespace Go.Proofs.Ytnomeokicfpidaa.M
open Go.RowKit Go.Proofs.YtnomeokicfpidaaW.PrintWords Go.Proofs.YtnomeokicfpidaaW.PrintLast Go.Proofs.YtnomeokicfpidaaW.PrintMore Go.Proofs.Ytnomeokicfpidaa.Q
set_option linter.unusedVariables false
-- uses: imprimaturlaw06_Config.l0

theorem rd_mid (pre : List Int) (x : Int) (rest : List Int) : rd (pre ++ x :: rest) (pre.length : Int) = x := by
  rw [rd_nat]; simp [List.getD_eq_getElem?_getD]

section
variable {K P : List Int} {ls : List Int} {Q : Int → Prop}

theorem cfg_l2 (T L : List Int) (x6 : Int) (hT : T.length + L.length < 1000) (hL : ∀ x ∈ L, 0 ≤ x ∧ x < 32) : ∀ (rest pre : List Int) (s : Nat), L = pre ++ rest → s < 4294967296 →
    Ex (fun k => imprimaturlaw06_Config.l0 k ls ((bs rest s : Nat) : Int) x6 (T ++ L) K P) Q →
    Ex (fun k => imprimaturlaw06_Config.l2 k ls (s : Int) x6 T L L (L.length : Int) (pre.length : Int) K P) Q := by
  intro rest
  induction rest with
  | nil =>
    intro pre s hp hs h
    refine Ex.st h (fun k => ?_)
    simp only [imprimaturlaw06_Config.l2]
    have : L.length = pre.length := by rw [hp, List.append_nil]
    rw [if_neg (by omega), if_pos (by omega)]; rfl
  | cons x rest ih =>
    intro pre s hp hs h
    have hx := hL x (by rw [hp]; simp)
    have hlen : L.length = pre.length + (rest.length + 1) := by rw [hp]; simp
    have hr : rd L (pre.length : Int) = x := by rw [hp]; exact rd_mid pre x rest
    obtain ⟨j, rfl⟩ : ∃ j : Nat, x = (j : Int) := ⟨x.toNat, by omega⟩
    have hb : s ||| 2 ^ j < 4294967296 := Nat.or_lt_two_pow (n := 32) hs (pow_lt32 (by omega))
    refine Ex.st (ih (pre ++ [(j : Int)]) (s ||| 2 ^ j) (by rw [hp]; simp) hb h) (fun k => ?_)
    simp only [imprimaturlaw06_Config.l2]
    rw [if_pos (by omega), if_pos (by omega), if_pos (by omega), hr, u64w j (by omega), if_pos (by omega), shl_one j (by omega), u32_or s (2 ^ j) hs (pow_lt32 (by omega)), w1 _ (by omega)]
    congr 1
    rw [List.length_append]; rfl

/-- Behind the states of one: choose. -/
theorem cfg_j2 (hI : Inv K P) (h24 : K.length ≤ 24) (T L : List Int) (a x6 : Int) (h6 : 0 ≤ x6) (h6' : x6 < 1000) (s : Nat) (hs : s < 4294967296) (hT : T.length < 100) (hL : L = sk K P a)
    (h : ∀ (L' : List Int) (x6' : Int), (∀ x ∈ L', x ∈ sk K P a) → L'.Nodup → (sk K P a = [] ∨ (one K a = true ∧ ∃ k, L' = [k]) ∨ (one K a = false ∧ L' = sk K P a)) → 0 ≤ x6' → x6' ≤ x6 + 1 →
      Ex (fun k => imprimaturlaw06_Config.l0 k ls ((bs L' s : Nat) : Int) x6' (T ++ L') K P) Q) :
    Ex (fun k => imprimaturlaw06_Config.j2 k ls (s : Int) x6 T L (one K a && decide ((L.length : Int) > 1)) K P) Q := by
  have hn := hI.1
  have hin : ∀ x ∈ sk K P a, 0 ≤ x ∧ x < 32 := fun x hx => by
    have := kids_in hn a x (List.mem_filter.1 hx).1
    omega
  have hlen : (sk K P a).length ≤ 24 := Nat.le_trans (List.length_filter_le _ _) (Nat.le_trans (kids_len P a) (by omega))
  have hnd : (sk K P a).Nodup := List.Pairwise.filter _ (kids_nodup P a)
  subst hL
  -- one chosen
  have pick : ∀ v : Int, one K a = true → (1 : Int) < ((sk K P a).length : Int) → Ex (fun k => imprimaturlaw06_Config.j3 k ls (s : Int) (wrap64 (x6 + 1)) T (((sk K P a).take ((wrap64 (v % ((sk K P a).length : Int) + 1)) : Int).toNat).drop (v % ((sk K P a).length : Int)).toNat) K P) Q := by
    intro v ho hl
    have h0 := Int.emod_nonneg v (show ((sk K P a).length : Int) ≠ 0 by omega)
    have h1 := Int.emod_lt_of_pos v (show 0 < ((sk K P a).length : Int) by omega)
    generalize v % ((sk K P a).length : Int) = t at h0 h1
    obtain ⟨i, rfl⟩ : ∃ i : Nat, t = (i : Int) := ⟨t.toNat, by omega⟩
    have hi : i < (sk K P a).length := by omega
    rw [w1 i (by omega), Int.toNat_natCast, Int.toNat_natCast]
    have e : ((sk K P a).take (i + 1)).drop i = [(sk K P a)[i]] := by
      rw [List.take_succ_eq_append_getElem hi, List.drop_append_of_le_length (by rw [List.length_take]; omega), List.drop_eq_nil_of_le (by rw [List.length_take]; omega)]; rfl
    rw [e]
    have hm : (sk K P a)[i] ∈ sk K P a := List.getElem_mem hi
    have w6 : wrap64 (x6 + 1) = x6 + 1 := w64 (by omega) (by omega)
    rw [w6]
    refine Ex.st (cfg_l2 T [(sk K P a)[i]] (x6 + 1) (by simp only [List.length_singleton]; omega) (fun x hx => by rw [List.mem_singleton] at hx; rw [hx]; exact hin _ hm) [(sk K P a)[i]] [] s rfl hs
      (h [(sk K P a)[i]] (x6 + 1) (fun x hx => by rw [List.mem_singleton] at hx; rw [hx]; exact hm) (by simp) (.inr (.inl ⟨ho, _, rfl⟩)) (by omega) (by omega))) (fun k => ?_)
    simp only [imprimaturlaw06_Config.j3]; rfl
  by_cases hc : one K a = true ∧ ((sk K P a).length : Int) > 1
  · rw [hc.1, Bool.true_and, decide_eq_true hc.2]
    by_cases hv : x6 < (ls.length : Int)
    · refine Ex.st (pick (rd ls x6) hc.1 hc.2) (fun k => ?_)
      simp only [imprimaturlaw06_Config.j2]
      have h0 := Int.emod_nonneg (rd ls x6) (show ((sk K P a).length : Int) ≠ 0 by omega)
      have h1 := Int.emod_lt_of_pos (rd ls x6) (show 0 < ((sk K P a).length : Int) by omega)
      have hw : wrap64 (rd ls x6 % ((sk K P a).length : Int) + 1) = rd ls x6 % ((sk K P a).length : Int) + 1 := w64 (by omega) (by omega)
      rw [if_pos trivial, if_pos hv, if_pos h6, within_f _ _ (by omega) (by omega), Option.bind_some, hw, if_pos h0, if_pos (by omega), if_pos (by omega)]
    · have hp0 := pick 0 hc.1 hc.2
      have hw0 : imprimaturkeep_Within.f 0 ((sk K P a).length : Int) = some (0 % ((sk K P a).length : Int)) := within_f _ _ (by omega) (by omega)
      rw [Int.zero_emod] at hp0 hw0
      refine Ex.st hp0 (fun k => ?_)
      simp only [imprimaturlaw06_Config.j2]
      have hw : wrap64 (0 + 1) = 1 := w64 (by omega) (by omega)
      rw [if_pos trivial, if_neg hv, hw0, Option.bind_some, hw, if_pos (Int.le_refl 0), if_pos (by decide), if_pos (by omega)]
  · have hf : (one K a && decide (((sk K P a).length : Int) > 1)) = false := by
      cases ho : one K a with
      | false => rfl
      | true => rw [decide_eq_false (fun e => hc ⟨ho, e⟩)]; rfl
    rw [hf]
    have hcase : sk K P a = [] ∨ (one K a = true ∧ ∃ k, sk K P a = [k]) ∨ (one K a = false ∧ sk K P a = sk K P a) := by
      cases ho : one K a with
      | false => exact .inr (.inr ⟨rfl, rfl⟩)
      | true =>
        have hl : (sk K P a).length ≤ 1 := by
          have : ¬ ((sk K P a).length : Int) > 1 := fun e => hc ⟨ho, e⟩
          omega
        match hS : sk K P a with
        | [] => exact .inl rfl
        | [k] => exact .inr (.inl ⟨rfl, k, rfl⟩)
        | _ :: _ :: _ => rw [hS] at hl; simp at hl
    refine Ex.st (f := fun k => imprimaturlaw06_Config.j3 k ls (s : Int) x6 T (sk K P a) K P) (Ex.st (cfg_l2 T (sk K P a) x6 (by omega) hin (sk K P a) [] s rfl hs (h (sk K P a) x6 (fun x hx => hx) hnd hcase h6 (by omega))) (fun k => ?_)) (fun k => ?_)
    · simp only [imprimaturlaw06_Config.j3]; rfl
    · simp only [imprimaturlaw06_Config.j2]
      rw [if_neg (by simp)]

theorem cfg_l1 (hI : Inv K P) (h24 : K.length ≤ 24) (T : List Int) (a x6 : Int) (ha : a < K.length) (h6 : 0 ≤ x6) (h6' : x6 < 1000) (s : Nat) (hs : s < 4294967296) (hT : T.length < 100)
    (h : ∀ (L' : List Int) (x6' : Int), (∀ x ∈ L', x ∈ sk K P a) → L'.Nodup → (sk K P a = [] ∨ (one K a = true ∧ ∃ k, L' = [k]) ∨ (one K a = false ∧ L' = sk K P a)) → 0 ≤ x6' → x6' ≤ x6 + 1 →
      Ex (fun k => imprimaturlaw06_Config.l0 k ls ((bs L' s : Nat) : Int) x6' (T ++ L') K P) Q) (ha1 : -1 ≤ a) :
    ∀ (rest pre acc : List Int), kids P a = pre ++ rest → acc = pre.filter (fun x => solidB (rd K x)) →
    Ex (fun k => imprimaturlaw06_Config.l1 k ls (s : Int) x6 T a acc (kids P a) ((kids P a).length : Int) (pre.length : Int) K P) Q := by
  have hn := hI.1
  have hkl := kids_len P a
  intro rest
  induction rest with
  | nil =>
    intro pre acc hp hacc
    rw [List.append_nil] at hp
    have ea : acc = sk K P a := by rw [hacc, ← hp]; rfl
    have hl : (kids P a).length = pre.length := by rw [hp]
    have hj := cfg_j2 hI h24 T acc a x6 h6 h6' s hs hT ea h
    by_cases h0 : a < 0
    · refine Ex.st hj (fun k => ?_)
      simp only [imprimaturlaw06_Config.l1]
      rw [if_neg (by omega), if_pos h0, show one K a = true by rw [show a = -1 by omega]; rfl, Bool.true_and]
    · have eo : one K a = (rd K a == 1) := by unfold one; rw [show (a == -1) = false from beq_eq_false_iff_ne.mpr (by omega)]; rfl
      by_cases h1 : rd K a = 1
      · refine Ex.st hj (fun k => ?_)
        simp only [imprimaturlaw06_Config.l1]
        rw [if_neg (by omega), if_neg h0, if_pos (by omega), if_pos (by omega), if_pos h1, eo, h1]; rfl
      · refine Ex.st hj (fun k => ?_)
        simp only [imprimaturlaw06_Config.l1]
        rw [if_neg (by omega), if_neg h0, if_pos (by omega), if_pos (by omega), if_neg h1, eo, show (rd K a == 1) = false from beq_eq_false_iff_ne.mpr h1]; rfl
  | cons x rest ih =>
    intro pre acc hp hacc
    have hlen : (kids P a).length = pre.length + (rest.length + 1) := by rw [hp]; simp
    have hr : rd (kids P a) (pre.length : Int) = x := by rw [hp]; exact rd_mid pre x rest
    have hx := kids_in hn a x (by rw [hp]; simp)
    have hal : acc.length ≤ pre.length := by rw [hacc]; exact List.length_filter_le _ _
    have hok := okS_iff.1 (hI.2.2.1 x.toNat (by omega))
    have er : K.getD x.toNat 0 = rd K x := rfl
    rw [er] at hok
    by_cases hx2 : rd K x ≤ 2
    · have hsol : solidB (rd K x) = true := solidB_iff.2 (by omega)
      refine Ex.st (ih (pre ++ [x]) (acc ++ [x]) (by rw [hp]; simp) (by rw [hacc, List.filter_append, List.filter_cons, if_pos hsol]; rfl)) (fun k => ?_)
      simp only [imprimaturlaw06_Config.l1]
      rw [if_pos (by omega), if_pos (by omega), if_pos (by omega), hr, if_pos (by omega), if_pos (by omega), if_pos hx2, if_pos (by omega), w1 _ (by omega), List.length_append]; rfl
    · have hsol : ¬ solidB (rd K x) = true := fun e => by have := solidB_iff.1 e; omega
      refine Ex.st (ih (pre ++ [x]) acc (by rw [hp]; simp) (by rw [hacc, List.filter_append, List.filter_cons, if_neg hsol]; simp)) (fun k => ?_)
      simp only [imprimaturlaw06_Config.l1]
      rw [if_pos (by omega), if_pos (by omega), if_pos (by omega), hr, if_pos (by omega), if_pos (by omega), if_neg hx2, w1 _ (by omega), List.length_append]; rfl
end

theorem cfg_l0 {K P : List Int} (hI : Inv K P) (h24 : K.length ≤ 24) (ls : List Int) : ∀ (d : Nat) (D T : List Int) (s : Nat) (x6 : Int), d + D.length = K.length + 1 → CI K P D T s → 0 ≤ x6 → x6 ≤ D.length →
    Ex (fun k => imprimaturlaw06_Config.l0 k ls (s : Int) x6 T K P) (fun c => ∃ s : Nat, c = s ∧ s < 2 ^ K.length ∧ LP K P (-1) s) := by
  have hn := hI.1
  intro d
  induction d with
  | zero =>
    intro D T s x6 hd hC h0 h1
    have := hC.len hI
    have hT : T = [] := List.length_eq_zero_iff.1 (by omega)
    subst hT
    refine ⟨s, Ev.ret (fun k => ?_), s, rfl, hC.lt hI, hC.done hI⟩
    simp only [imprimaturlaw06_Config.l0]
    rw [if_neg (by simp)]
  | succ d ih =>
    intro D T s x6 hd hC h0 h1
    cases T with
    | nil =>
      refine ⟨s, Ev.ret (fun k => ?_), s, rfl, hC.lt hI, hC.done hI⟩
      simp only [imprimaturlaw06_Config.l0]
      rw [if_neg (by simp)]
    | cons a T =>
      have hlen := hC.len hI
      have hs : s < 4294967296 := Nat.lt_of_lt_of_le (hC.lt hI) (Nat.pow_le_pow_right (by decide) (show K.length ≤ 32 by omega))
      rw [List.length_cons] at hlen
      have ha : -1 ≤ a ∧ a < K.length := by
        rcases hC.el a (List.mem_append_right _ (List.mem_cons_self ..)) with e | ⟨e, f, _⟩ <;> omega
      refine Ex.st (f := fun k => (imprimaturref06_Shape_Kids.f k K P a).bind fun t109 => (imprimaturlaw06_Config.l1 k ls (s : Int) x6 T a ([] : List Int) t109 (t109.length : Int) 0 K P)) (Ex.bd (rKids_f K P a (by omega)) ?_) (fun k => ?_)
      · refine cfg_l1 hI h24 T a x6 ha.2 h0 (by omega) s hs (by omega) ?_ ha.1 (kids P a) [] [] rfl rfl
        intro L' x6' hL hd' hc a0 a1
        have hp : ∀ x ∈ L', 0 ≤ x := fun x hx => (kids_in hn a x (List.mem_filter.1 (hL x hx)).1).1
        refine ih (D ++ [a]) (T ++ L') (bs L' s) x6' (by rw [List.length_append]; simp; omega) (hC.step hI hL hd' hc (fun j => tb_bs hp)) a0 (by rw [List.length_append]; simp; omega)
      · simp only [imprimaturlaw06_Config.l0]
        rw [if_pos (by simp only [List.length_cons]; omega), if_pos (by simp only [List.length_cons]; omega), if_pos (by simp only [List.length_cons]; omega)]
        rfl

theorem config_f {K P : List Int} (hI : Inv K P) (h24 : K.length ≤ 24) (ls : List Int) :
    Ex (fun k => imprimaturlaw06_Config.f k K P ls) (fun c => ∃ s : Nat, c = s ∧ s < 2 ^ K.length ∧ LP K P (-1) s) := by
  refine cfg_l0 hI h24 ls (K.length + 1) [] [-1] 0 0 rfl ⟨by simp, fun x hx => .inl (by simpa using hx), fun j => ?_, fun x hx => (List.not_mem_nil hx).elim, by simp⟩ (by omega) (by simp)
  rw [Nat.zero_testBit]
  simp
end Go.Proofs.Ytnomeokicfpidaa.M
/-
  The law ShapeConfigs, pure: what Config makes is a configuration; without one of its states, or with one more, it is none. Conditions: those of the given statement.
-/
namespace Go.Proofs.Ytnomeokicfpidaa.Pure
open Go.RowKit Go.Proofs.YtnomeokicfpidaaW.PrintWords Go.Proofs.YtnomeokicfpidaaW.PrintLast Go.Proofs.YtnomeokicfpidaaW.PrintMore Go.Proofs.Ytnomeokicfpidaa.Q Go.Proofs.Ytnomeokicfpidaa.M
set_option linter.unusedVariables false

theorem tb_xor {k s j : Nat} : (s ^^^ 2 ^ k).testBit j = (if j = k then !s.testBit j else s.testBit j) := by
  rw [Nat.testBit_xor, Nat.testBit_two_pow]
  by_cases e : j = k
  · rw [if_pos e, decide_eq_true (by omega)]; simp
  · rw [if_neg e, decide_eq_false (by omega)]; simp

/-- Two configurations that differ in one state alone: there are none such. -/
theorem LP.off {K P : List Int} (hI : Inv K P) {s s' : Nat} {k : Nat} (h : LP K P (-1) s) (h' : LP K P (-1) s') (hk : s.testBit k = true) (hk' : ¬ s'.testBit k = true) (he : ∀ j, j ≠ k → s.testBit j = s'.testBit j) : False := by
  have hn := hI.1
  obtain ⟨b1, b2, b3, b4, b5⟩ := h.mem k hk
  have hT := hI.tree k (by omega)
  have hkid : (k : Int) ∈ kids P (P.getD k 0) := mem_kids.2 ⟨k, rfl, by omega, rfl⟩
  have hh : heldB K P s (P.getD k 0) (one K (P.getD k 0)) = true ∧ heldB K P s' (P.getD k 0) (one K (P.getD k 0)) = true := by
    rcases b5 with b5 | ⟨b5, b6⟩
    · rw [b5]; exact ⟨h.own, h'.own⟩
    · have e : (((P.getD k 0).toNat : Nat) : Int) = P.getD k 0 := by omega
      have a1 := h.all _ b6
      rw [he _ (by omega)] at b6
      have a2 := h'.all _ b6
      rw [e] at a1 a2
      exact ⟨a1, a2⟩
  cases ho : one K (P.getD k 0) with
  | true =>
    rw [ho] at hh
    rcases held_one.1 hh.2 with e | ⟨m, hm, hb, _⟩
    · rw [e] at hkid; cases hkid
    · rcases held_one.1 hh.1 with e | ⟨q, hq, hb', hu⟩
      · rw [e] at hkid; cases hkid
      · obtain ⟨j, rfl, _, _⟩ := mem_kids.1 hm
        rw [Int.toNat_natCast] at hb
        have hj : j ≠ k := fun e => hk' (e ▸ hb)
        have a := hu (j : Int) hm (by rw [Int.toNat_natCast, he j hj]; exact hb)
        have b := hu (k : Int) hkid (by rw [Int.toNat_natCast]; exact hk)
        omega
  | false =>
    rw [ho] at hh
    have := held_all.1 hh.2 (k : Int) hkid
    rw [Int.toNat_natCast] at this
    exact hk' this

theorem ShapeConfigs : imprimaturlaw06_ShapeConfigs.Pure := by
  intro l0 l1 a2 _ _ _ _ _ _ _
  refine Ev.rounds (r := true) ?_
  unfold imprimaturlaw06_ShapeConfigs.f
  obtain ⟨⟨K, P, K', P'⟩, hE, hI, e1, e2, hlen⟩ := of_f l0 (by omega)
  simp only at hI hlen e1 e2
  subst e1 e2
  refine Ev.bd hE ?_
  simp only
  have hn := hI.1
  have h1 := hI.2.1
  have h12 : K'.length ≤ 12 := by omega
  obtain ⟨c, hc, s, rfl, hs, hLP⟩ := config_f hI (by omega) l1
  refine Ev.bd hc ?_
  have h32 : (2 : Nat) ^ K'.length ≤ 2 ^ 12 := Nat.pow_le_pow_right (by decide) h12
  have h32' : (2 : Nat) ^ K'.length ≤ 4096 := h32
  clear h32
  have hp : ∀ j, j < K'.length → -1 ≤ P'.getD j 0 ∧ P'.getD j 0 < K'.length := fun j hj => by
    have := hI.tree j (by omega)
    omega
  have hP := fun (x : Nat) (hx : x < 4294967296) => Proper_f K' P' hn (by omega) hp x hx
  have hw : imprimaturkeep_Within.f a2 (K'.length : Int) = some (a2 % (K'.length : Int)) := within_f _ _ (by omega) (by omega)
  have m0 := Int.emod_nonneg a2 (show (K'.length : Int) ≠ 0 by omega)
  have m1 := Int.emod_lt_of_pos a2 (show 0 < (K'.length : Int) by omega)
  generalize a2 % (K'.length : Int) = t at hw m0 m1
  obtain ⟨i, rfl⟩ : ∃ i : Nat, t = (i : Int) := ⟨t.toNat, by omega⟩
  have hi : i < K'.length := by omega
  have hpi : (2 : Nat) ^ i < 4294967296 := pow_lt32 (by omega)
  -- with or without one
  have hx : properB K' P' (s ^^^ 2 ^ i) = false := by
    refine eq_false_of_ne_true fun h => ?_
    have hL := (proper_LP hI _).1 h
    by_cases hb : s.testBit i = true
    · exact LP.off hI hLP hL hb (by rw [tb_xor, if_pos rfl, hb]; simp) (fun j hj => by rw [tb_xor, if_neg hj])
    · exact LP.off hI hL hLP (by rw [tb_xor, if_pos rfl, eq_false_of_ne_true hb]; rfl) hb (fun j hj => by rw [tb_xor, if_neg hj])
  have h0 : properB K' P' 0 = false := by
    refine eq_false_of_ne_true fun h => ?_
    have hL := ((proper_LP hI _).1 h).own
    rw [show one K' (-1) = true from rfl] at hL
    rcases held_one.1 hL with e | ⟨m, _, hb, _⟩
    · have := hI.tree 0 (by omega)
      have : (0 : Int) ∈ kids P' (-1) := mem_kids.2 ⟨0, rfl, by omega, by omega⟩
      rw [e] at this; cases this
    · rw [Nat.zero_testBit] at hb; cases hb
  have h31 : properB K' P' (s ||| 2147483648) = false := by
    unfold properB
    rw [decide_eq_false, Bool.false_and]
    have : 2147483648 ≤ s ||| 2147483648 := Nat.right_le_or
    omega
  have hso : s ||| 2147483648 < 4294967296 := Nat.or_lt_two_pow (n := 32) (by omega) (by decide)
  have hsx : s ^^^ 2 ^ i < 4294967296 := Nat.xor_lt_two_pow (n := 32) (by omega) hpi
  refine Ev.bd (hP s (by omega)) (Ev.pos ((proper_LP hI _).2 hLP) ?_)
  refine Ev.bd (hP 0 (by omega)) (Ev.neg (by rw [h0]; simp) ?_)
  have hor : Go.bits .or .u32 (s : Int) 2147483648 = ((s ||| 2147483648 : Nat) : Int) := M.u32_or s 2147483648 (by omega) (by decide)
  rw [hor]
  refine Ev.bd (hP _ hso) ?_
  rw [h31]
  refine Ev.st (f := fun k => (shape_Proper.f k K' P' ((s ^^^ 2 ^ i : Nat) : Int)).bind fun t120 => (if t120 = true then (some false) else ((imprimaturlaw06_wakes.f k).bind fun t121 => (some t121)))) ?_ (fun k => ?_)
  · refine Ev.bd (hP _ hsx) (Ev.neg (by rw [hx]; simp) (Ev.bd wakes6_f (Ev.now _)))
  · simp only [imprimaturlaw06_ShapeConfigs.j0]
    rw [if_neg (by simp), hw, Option.bind_some, u64w i (by omega), if_pos (by omega), shl_one i (by omega), M.u32_xor s _ (by omega) hpi]
end Go.Proofs.Ytnomeokicfpidaa.Pure
