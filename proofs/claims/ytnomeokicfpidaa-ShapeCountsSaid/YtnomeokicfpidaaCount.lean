/-
  How many configurations a shape has: as many as the law counts by multiplying and adding. Conditions: a shape as Of makes it, of at most 24 states.
-/
import Derived.Test.YtnomeokicfpidaaConfs2
import Derived.Test.YtnomeokicfpidaaOfL
import Derived.Test.YtnomeokicfpidaaQx0
import Derived.Test.YtnomeokicfpidaaQx10
namespace Go.Proofs.Ytnomeokicfpidaa.M
open Go.RowKit Go.Proofs.YtnomeokicfpidaaW.PrintWords Go.Proofs.YtnomeokicfpidaaW.PrintLast Go.Proofs.YtnomeokicfpidaaW.PrintMore Go.Proofs.Ytnomeokicfpidaa.Q
set_option linter.unusedVariables false

theorem nodup_prodL {F : Int → List Nat} {D : Int → Nat → Prop} : ∀ {L : List Int}, L.Nodup → (∀ k ∈ L, (F k).Nodup) → (∀ k ∈ L, ∀ x ∈ F k, ∀ j, x.testBit j = true → D k j) →
    (∀ k ∈ L, ∀ m ∈ L, ∀ j, D k j → D m j → k = m) → (prodL (L.map F)).Nodup
  | [], _, _, _, _ => by simp [prodL]
  | x :: L, hd, hn, hb, hD => by
    obtain ⟨h1, h2⟩ := List.nodup_cons.1 hd
    have ih := nodup_prodL h2 (fun k hk => hn k (List.mem_cons_of_mem _ hk)) (fun k hk => hb k (List.mem_cons_of_mem _ hk)) (fun k hk m hm => hD k (List.mem_cons_of_mem _ hk) m (List.mem_cons_of_mem _ hm))
    have rest : ∀ y ∈ prodL (L.map F), ∀ j, y.testBit j = true → ¬ D x j := by
      intro y hy j hj hx
      obtain ⟨g, hg, rfl⟩ := (mem_prodL h2).1 hy
      obtain ⟨k, hk, hkj⟩ := tb_orL.1 hj
      have := hD x (List.mem_cons_self ..) k (List.mem_cons_of_mem _ hk) j hx (hb k (List.mem_cons_of_mem _ hk) _ (hg k hk) j hkj)
      exact h1 (this ▸ hk)
    have mine : ∀ a ∈ F x, ∀ j, a.testBit j = true → D x j := hb x (List.mem_cons_self ..)
    simp only [List.map_cons, prodL]
    unfold List.Nodup
    rw [List.pairwise_flatMap]
    refine ⟨fun a ha => ?_, ?_⟩
    · rw [List.pairwise_map]
      refine List.Pairwise.imp_of_mem ?_ ih
      intro y z hy hz hne e
      refine hne (Nat.eq_of_testBit_eq fun j => ?_)
      have ej : (a ||| y).testBit j = (a ||| z).testBit j := by rw [e]
      rw [Nat.testBit_or, Nat.testBit_or] at ej
      by_cases haj : a.testBit j = true
      · have hx := mine a ha j haj
        have e1 : y.testBit j = false := eq_false_of_ne_true fun h => rest y hy j h hx
        have e2 : z.testBit j = false := eq_false_of_ne_true fun h => rest z hz j h hx
        rw [e1, e2]
      · rw [eq_false_of_ne_true haj, Bool.false_or, Bool.false_or] at ej; exact ej
    · refine List.Pairwise.imp_of_mem ?_ (hn x (List.mem_cons_self ..))
      intro a b ha hb' hne u hu v hv e
      obtain ⟨y, hy, rfl⟩ := List.mem_map.1 hu
      obtain ⟨z, hz, rfl⟩ := List.mem_map.1 hv
      refine hne (Nat.eq_of_testBit_eq fun j => ?_)
      have ej : (a ||| y).testBit j = (b ||| z).testBit j := by rw [e]
      rw [Nat.testBit_or, Nat.testBit_or] at ej
      rw [Bool.eq_iff_iff]
      constructor
      · intro h
        rw [h, Bool.true_or] at ej
        have := ej.symm
        rw [Bool.or_eq_true] at this
        rcases this with h' | h'
        · exact h'
        · exact absurd (mine a ha j h) (rest z hz j h')
      · intro h
        rw [h, Bool.true_or, Bool.or_eq_true] at ej
        rcases ej with h' | h'
        · exact h'
        · exact absurd (mine b hb' j h) (rest y hy j h')

section
variable {K P : List Int} (hI : Inv K P)
include hI
theorem kid_nat {a x : Int} (hx : x ∈ sk K P a) : ∃ k : Nat, x = k ∧ k < K.length ∧ P.getD k 0 = a ∧ solidB (K.getD k 0) = true := by
  obtain ⟨h1, h2⟩ := List.mem_filter.1 hx
  obtain ⟨m, rfl, m1, m2⟩ := mem_kids.1 h1
  rw [rd_nat] at h2
  exact ⟨m, rfl, by have := hI.1; omega, m2, h2⟩
theorem nodup_confs : ∀ (f : Nat) (a : Int), -1 ≤ a → a < K.length → (K.length : Int) - a ≤ f → (confs K P f a).Nodup := by
  have hT := hI.tree
  have hn := hI.1
  intro f
  induction f with
  | zero => intro a h0 h1 h2; omega
  | succ f ih =>
    intro a h0 h1 h2
    rw [confs]
    by_cases hs : sk K P a = []
    · rw [if_pos hs]; simp
    · rw [if_neg hs]
      have hnd : (sk K P a).Nodup := List.Pairwise.filter _ (kids_nodup P a)
      have inner : ∀ x ∈ sk K P a, ((confs K P f x).map (fun s => 2 ^ x.toNat ||| s)).Nodup ∧ ∀ y ∈ (confs K P f x).map (fun s => 2 ^ x.toNat ||| s), ∀ j : Nat, y.testBit j = true → Un P (j : Int) x := by
        intro x hx
        obtain ⟨k, rfl, k1, k2, k3⟩ := kid_nat hI hx
        have hka := hT k (by omega)
        have hm := mem_confs hI f (k : Int) (by omega) (by omega) (by omega)
        constructor
        · unfold List.Nodup
          rw [List.pairwise_map]
          refine List.Pairwise.imp_of_mem ?_ (ih (k : Int) (by omega) (by omega) (by omega))
          intro y z hy hz hne e
          refine hne (Nat.eq_of_testBit_eq fun j => ?_)
          have hy' := ((hm y).1 hy).mem k
          have hz' := ((hm z).1 hz).mem k
          by_cases e' : k = j
          · subst e'
            rw [eq_false_of_ne_true fun h => (hy' h).2.1 rfl, eq_false_of_ne_true fun h => (hz' h).2.1 rfl]
          · have ej : (2 ^ (k : Int).toNat ||| y).testBit j = (2 ^ (k : Int).toNat ||| z).testBit j := by rw [e]
            rw [Nat.testBit_or, Nat.testBit_or, Int.toNat_natCast, Nat.testBit_two_pow, decide_eq_false e', Bool.false_or, Bool.false_or] at ej
            exact ej
        · intro y hy j hj
          obtain ⟨t, ht, rfl⟩ := List.mem_map.1 hy
          rw [Int.toNat_natCast, tb_or] at hj
          rcases hj with rfl | hj
          · exact .refl _
          · exact (((hm t).1 ht).mem j hj).2.2.1
      by_cases ha : 0 ≤ a ∧ rd K a = 2
      · rw [if_pos ha]
        refine nodup_prodL (D := fun k j => Un P (j : Int) k) hnd (fun k hk => (inner k hk).1) (fun k hk y hy j hj => (inner k hk).2 y hy j hj) ?_
        intro k hk m hm j h h'
        obtain ⟨k, rfl, k1, k2, _⟩ := kid_nat hI hk
        obtain ⟨m, rfl, m1, m2, _⟩ := kid_nat hI hm
        have := Un.sib hT (by omega) (by omega) k2 m2 h h'
        omega
      · rw [if_neg ha]
        unfold List.Nodup
        rw [List.pairwise_flatMap]
        refine ⟨fun k hk => (inner k hk).1, ?_⟩
        refine List.Pairwise.imp_of_mem ?_ hnd
        intro x y hx hy hne u hu v hv e
        subst e
        obtain ⟨k, rfl, k1, k2, _⟩ := kid_nat hI hx
        obtain ⟨m, rfl, m1, m2, _⟩ := kid_nat hI hy
        have hb : u.testBit k = true := by
          obtain ⟨t, _, rfl⟩ := List.mem_map.1 hu
          rw [Int.toNat_natCast, tb_or]; exact .inl rfl
        have := Un.sib hT (by omega) (by omega) k2 m2 (.refl _) ((inner _ hy).2 u hv k hb)
        exact hne (by omega)
omit hI in
theorem confs_ne : ∀ (f : Nat) (a : Int), confs K P f a ≠ [] := by
  intro f
  induction f with
  | zero => intro a; simp [confs]
  | succ f ih =>
    intro a
    rw [confs]
    by_cases hs : sk K P a = []
    · rw [if_pos hs]; simp
    · rw [if_neg hs]
      by_cases ha : 0 ≤ a ∧ rd K a = 2
      · rw [if_pos ha]
        have : ∀ L : List Int, prodL (L.map (fun k => (confs K P f k).map (fun s => 2 ^ k.toNat ||| s))) ≠ [] := by
          intro L
          induction L with
          | nil => simp [prodL]
          | cons x L ihL =>
            obtain ⟨u, hu⟩ := List.exists_mem_of_ne_nil _ (ih x)
            obtain ⟨v, hv⟩ := List.exists_mem_of_ne_nil _ ihL
            simp only [List.map_cons, prodL]
            exact List.ne_nil_of_mem (List.mem_flatMap.2 ⟨_, List.mem_map.2 ⟨u, hu, rfl⟩, List.mem_map.2 ⟨v, hv, rfl⟩⟩)
        exact this _
      · rw [if_neg ha]
        obtain ⟨x, hx⟩ := List.exists_mem_of_ne_nil _ hs
        obtain ⟨u, hu⟩ := List.exists_mem_of_ne_nil _ (ih x)
        exact List.ne_nil_of_mem (List.mem_flatMap.2 ⟨x, hx, List.mem_map.2 ⟨u, hu, rfl⟩⟩)
theorem confs_len {f : Nat} {a : Int} (h0 : -1 ≤ a) (h1 : a < K.length) (h2 : (K.length : Int) - a ≤ f) : (confs K P f a).length ≤ 2 ^ K.length := by
  have := (nodup_confs hI f a h0 h1 h2).length_le_of_subset (l₂ := List.range (2 ^ K.length)) (fun s hs => by
    rw [List.mem_range]
    have hL := (mem_confs hI f a h0 h1 h2 s).1 hs
    refine Nat.lt_pow_two_of_testBit s (fun i hi => eq_false_of_ne_true fun h => ?_)
    have := (hL.mem i h).1
    omega)
  rwa [List.length_range] at this

/-- The solid states of one, from i on. -/
def skL (K P : List Int) (a : Int) (i d : Nat) : List Nat := (List.range' i d).filter (fun j => decide (P.getD j 0 = a) && solidB (K.getD j 0))
omit hI in
theorem skL_all (K P : List Int) (a : Int) : sk K P a = (skL K P a 0 P.length).map (fun j : Nat => (j : Int)) := by
  unfold sk skL kids kidsFrom
  rw [List.filter_map, List.filter_filter]
  congr 1
  refine List.filter_congr fun j _ => ?_
  simp only [Function.comp, rd_nat, Bool.and_comm]
omit hI in
theorem skL_succ (K P : List Int) (a : Int) (i d : Nat) : skL K P a i (d + 1) = if P.getD i 0 = a ∧ solidB (K.getD i 0) = true then i :: skL K P a (i + 1) d else skL K P a (i + 1) d := by
  unfold skL
  rw [List.range'_succ, List.filter_cons]
  by_cases h : P.getD i 0 = a ∧ solidB (K.getD i 0) = true
  · rw [if_pos h, if_pos (by rw [decide_eq_true h.1, h.2]; rfl)]
  · rw [if_neg h, if_neg (by rw [Bool.and_eq_true, decide_eq_true_eq]; exact h)]
omit hI in
theorem prodL_len : ∀ (Xs : List (List Nat)), (prodL Xs).length = (Xs.map List.length).prod
  | [] => rfl
  | X :: Xs => by
    rw [prodL, List.map_cons, List.prod_cons, ← prodL_len Xs]
    induction X with
    | nil => simp
    | cons x X ih => rw [List.flatMap_cons, List.length_append, List.length_map, ih, List.length_cons, Nat.succ_mul, Nat.add_comm]

theorem ways_l0 (a : Int) (W : Nat → Nat) (hW : ∀ k : Nat, k < K.length → P.getD k 0 = a → solidB (K.getD k 0) = true → 1 ≤ W k ∧ Ev (fun n => imprimaturlaw06_ways.f n K P (k : Int)) (W k : Int))
    (h24 : K.length ≤ 24) (ha : a < K.length) : ∀ (d i : Nat) (S Pr : Int) (any : Bool), i + d = K.length →
      (¬ (0 ≤ a ∧ rd K a = 2) → 0 ≤ S ∧ S + (((skL K P a i d).map W).sum : Nat) ≤ 4611686018427387904) →
      ((0 ≤ a ∧ rd K a = 2) → 0 ≤ Pr ∧ Pr * (((skL K P a i d).map W).prod : Nat) ≤ 4611686018427387904) →
      Ev (fun n => imprimaturlaw06_ways.l0 n a S Pr any (K.length : Int) (i : Int) K P)
        (if (any || !(skL K P a i d).isEmpty) = true then (if 0 ≤ a ∧ rd K a = 2 then Pr * (((skL K P a i d).map W).prod : Nat) else S + (((skL K P a i d).map W).sum : Nat)) else 1) := by
  have hn := hI.1
  intro d
  induction d with
  | zero =>
    intro i S Pr any hi hS hP
    refine Ev.ret (fun k => ?_)
    simp only [imprimaturlaw06_ways.l0]
    rw [if_neg (by omega)]
    have e : skL K P a i 0 = [] := by simp [skL]
    rw [e]
    cases any with
    | true =>
      simp only [if_true, List.map_nil, List.prod_nil, List.sum_nil, Bool.true_or]
      by_cases h0 : 0 ≤ a
      · rw [if_pos h0, if_pos h0, if_pos ha]
        by_cases h2 : rd K a = 2
        · rw [if_pos h2, if_pos ⟨h0, h2⟩]; simp
        · rw [if_neg h2, if_neg (fun h => h2 h.2)]; simp
      · rw [if_neg h0, if_neg (fun h => h0 h.1)]; simp
    | false => simp
  | succ d ih =>
    intro i S Pr any hi hS hP
    have hw := w1 i (by omega)
    rw [skL_succ] at hS hP ⊢
    by_cases hk : P.getD i 0 = a ∧ solidB (K.getD i 0) = true
    · rw [if_pos hk] at hS hP ⊢
      obtain ⟨hk1, hk2⟩ := hk
      obtain ⟨w1', w2⟩ := hW i (by omega) hk1 hk2
      simp only [List.map_cons, List.sum_cons, List.prod_cons] at hS hP ⊢
      generalize hs : ((skL K P a (i + 1) d).map W).sum = s at hS ih ⊢
      have hsol := solidB_iff.1 hk2
      have hpp : 1 ≤ ((skL K P a (i + 1) d).map W).prod := by
        have : ∀ L : List Nat, (∀ j ∈ L, 1 ≤ W j) → 1 ≤ (L.map W).prod := by
          intro L
          induction L with
          | nil => intro _; simp
          | cons x L ihL =>
            intro h
            rw [List.map_cons, List.prod_cons]
            exact Nat.mul_pos (h x (List.mem_cons_self ..)) (ihL fun j hj => h j (List.mem_cons_of_mem _ hj))
        refine this _ (fun j hj => ?_)
        unfold skL at hj
        obtain ⟨j1, j2⟩ := List.mem_filter.1 hj
        rw [List.mem_range'_1] at j1
        rw [Bool.and_eq_true, decide_eq_true_eq] at j2
        exact (hW j (by omega) j2.1 j2.2).1
      generalize hp : ((skL K P a (i + 1) d).map W).prod = p at hP hpp ih ⊢
      have eS : ¬ (0 ≤ a ∧ rd K a = 2) → wrap64 (S + (W i : Int)) = S + (W i : Int) := fun h => by
        have := hS h
        exact w64 (by omega) (by omega)
      have eP : (0 ≤ a ∧ rd K a = 2) → wrap64 (Pr * (W i : Int)) = Pr * (W i : Int) := fun h => by
        obtain ⟨q0, q1⟩ := hP h
        have q2 : 0 ≤ Pr * (W i : Int) := Int.mul_nonneg q0 (by omega)
        have q3 : Pr * (W i : Int) * 1 ≤ Pr * (W i : Int) * (p : Int) := Int.mul_le_mul_of_nonneg_left (by omega) q2
        rw [Int.natCast_mul, ← Int.mul_assoc] at q1
        exact w64 (by omega) (by omega)
      refine Ev.st (f := fun n => (imprimaturlaw06_ways.f n K P (i : Int)).bind fun t => imprimaturlaw06_ways.l0 n a (wrap64 (S + t)) (wrap64 (Pr * t)) true (K.length : Int) ((i + 1 : Nat) : Int) K P) (Ev.bd w2 ?_) (fun k => ?_)
      · refine Ev.val (ih (i + 1) _ _ true (by omega) (fun h => ?_) (fun h => ?_)) ?_
        · rw [eS h]
          have := hS h
          omega
        · rw [eP h]
          obtain ⟨q0, q1⟩ := hP h
          refine ⟨Int.mul_nonneg q0 (by omega), ?_⟩
          rw [Int.mul_assoc, ← Int.natCast_mul, hp]; exact q1
        · have e : (any || !(i :: skL K P a (i + 1) d).isEmpty) = true := by simp
          rw [e, Bool.true_or, if_pos rfl, if_pos rfl]
          by_cases h : 0 ≤ a ∧ rd K a = 2
          · rw [if_pos h, if_pos h, eP h, Int.mul_assoc, ← Int.natCast_mul, hp]
          · rw [if_neg h, if_neg h, eS h, hs]; omega
      · simp only [imprimaturlaw06_ways.l0]
        rw [if_pos (by omega), if_pos (by omega), if_pos (by omega), rd_nat, if_pos hk1, if_pos (by omega), rd_nat, if_neg (by omega), hw]
    · rw [if_neg hk] at hS hP ⊢
      refine Ev.st (ih (i + 1) S Pr any (by omega) hS hP) (fun k => ?_)
      simp only [imprimaturlaw06_ways.l0]
      rw [if_pos (by omega), if_pos (by omega), if_pos (by omega), rd_nat, hw]
      by_cases h1 : P.getD i 0 = a
      · have h3 : K.getD i 0 ≥ 3 := by
          obtain ⟨b1, b2, _⟩ := okS_iff.1 (hI.2.2.1 i (by omega))
          have : ¬ (K.getD i 0 = 1 ∨ K.getD i 0 = 2) := fun h => hk ⟨h1, solidB_iff.2 h⟩
          omega
        rw [if_pos h1, if_pos (by omega), rd_nat, if_pos h3]
      · rw [if_neg h1]

theorem ways_f (h24 : K.length ≤ 24) : ∀ (f : Nat) (a : Int), -1 ≤ a → a < K.length → (K.length : Int) - a ≤ f → Ev (fun n => imprimaturlaw06_ways.f n K P a) ((confs K P f a).length : Int) := by
  have hT := hI.tree
  have hn := hI.1
  intro f
  induction f with
  | zero => intro a h0 h1 h2; omega
  | succ f ih =>
    intro a h0 h1 h2
    have hlen := confs_len hI h0 h1 h2
    have hbig : (2 : Nat) ^ K.length ≤ 2 ^ 24 := Nat.pow_le_pow_right (by decide) h24
    have hb : (confs K P (f + 1) a).length ≤ 16777216 := Nat.le_trans hlen hbig
    clear hlen hbig
    have e0 : skL K P a 0 K.length = skL K P a 0 P.length := by rw [hn]
    have eS : ¬ (0 ≤ a ∧ rd K a = 2) → sk K P a ≠ [] → (confs K P (f + 1) a).length = ((skL K P a 0 K.length).map (fun k : Nat => (confs K P f (k : Int)).length)).sum := by
      intro ha hs
      rw [confs, if_neg hs, if_neg ha, List.length_flatMap, skL_all, e0, List.map_map]
      congr 1
      refine List.map_congr_left fun k _ => ?_
      simp
    have eP : (0 ≤ a ∧ rd K a = 2) → sk K P a ≠ [] → (confs K P (f + 1) a).length = ((skL K P a 0 K.length).map (fun k : Nat => (confs K P f (k : Int)).length)).prod := by
      intro ha hs
      rw [confs, if_neg hs, if_pos ha, prodL_len, skL_all, e0, List.map_map, List.map_map]
      congr 1
      refine List.map_congr_left fun k _ => ?_
      simp
    have emp : sk K P a = [] → skL K P a 0 K.length = [] := fun h => by
      rw [skL_all] at h
      rw [e0]; exact List.map_eq_nil_iff.1 h
    refine Ev.st (Ev.val (ways_l0 hI a (fun k : Nat => (confs K P f (k : Int)).length) (fun k hk ek sk' => ⟨?_, ?_⟩) h24 h1 K.length 0 0 1 false (by omega) (fun ha => ?_) (fun ha => ?_)) ?_) (fun n => by simp only [imprimaturlaw06_ways.f]; rfl)
    · exact List.length_pos_iff.2 (confs_ne f _)
    · have := hT k (by omega)
      exact ih (k : Int) (by omega) (by omega) (by omega)
    · by_cases hs : sk K P a = []
      · rw [emp hs]; simp
      · rw [← eS ha hs]; omega
    · by_cases hs : sk K P a = []
      · rw [emp hs]; simp
      · rw [← eP ha hs]; omega
    · by_cases hs : sk K P a = []
      · rw [emp hs, confs, if_pos hs]; simp
      · have ne : (skL K P a 0 K.length).isEmpty = false := by
          cases h : skL K P a 0 K.length with
          | nil => exact absurd (by rw [skL_all, ← e0, h]; rfl) hs
          | cons x l => rfl
        rw [ne, if_pos (by simp)]
        by_cases ha : 0 ≤ a ∧ rd K a = 2
        · rw [if_pos ha, eP ha hs]; omega
        · rw [if_neg ha, eS ha hs]; omega
end
end Go.Proofs.Ytnomeokicfpidaa.M
