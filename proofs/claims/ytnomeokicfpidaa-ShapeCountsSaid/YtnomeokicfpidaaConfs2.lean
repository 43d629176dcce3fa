/-
  A set stands in the list of the configurations just if it is one. Conditions: a shape as Of makes it.
-/
import Derived.Test.YtnomeokicfpidaaConfs
namespace Go.Proofs.Ytnomeokicfpidaa.M
open Go.RowKit Go.Proofs.YtnomeokicfpidaaW.PrintWords Go.Proofs.YtnomeokicfpidaaW.PrintLast Go.Proofs.YtnomeokicfpidaaW.PrintMore
set_option linter.unusedVariables false

theorem tb_or {k s j : Nat} : (2 ^ k ||| s).testBit j = true ↔ k = j ∨ s.testBit j = true := by
  rw [Nat.testBit_or, Nat.testBit_two_pow, Bool.or_eq_true, decide_eq_true_eq]
def orL (g : Int → Nat) : List Int → Nat
  | [] => 0
  | k :: L => g k ||| orL g L
theorem tb_orL {g : Int → Nat} {j : Nat} : ∀ {L : List Int}, (orL g L).testBit j = true ↔ ∃ k ∈ L, (g k).testBit j = true
  | [] => by simp [orL]
  | x :: L => by
    rw [orL, Nat.testBit_or, Bool.or_eq_true, tb_orL (L := L)]
    constructor
    · rintro (h | ⟨k, hk, h⟩)
      · exact ⟨x, List.mem_cons_self .., h⟩
      · exact ⟨k, List.mem_cons_of_mem _ hk, h⟩
    · rintro ⟨k, hk, h⟩
      rcases List.mem_cons.1 hk with rfl | hk
      · exact .inl h
      · exact .inr ⟨k, hk, h⟩
theorem orL_congr {g g' : Int → Nat} : ∀ {L : List Int}, (∀ k ∈ L, g k = g' k) → orL g L = orL g' L
  | [], _ => rfl
  | x :: L, h => by rw [orL, orL, h x (List.mem_cons_self ..), orL_congr (fun k hk => h k (List.mem_cons_of_mem _ hk))]
theorem mem_prodL {F : Int → List Nat} {s : Nat} : ∀ {L : List Int}, L.Nodup → (s ∈ prodL (L.map F) ↔ ∃ g : Int → Nat, (∀ k ∈ L, g k ∈ F k) ∧ s = orL g L)
  | [], _ => by
    simp only [List.map_nil, prodL, List.mem_singleton, orL]
    exact ⟨fun h => ⟨fun _ => 0, fun k hk => (List.not_mem_nil hk).elim, h⟩, fun ⟨_, _, h⟩ => h⟩
  | x :: L, hd => by
    obtain ⟨h1, h2⟩ := List.nodup_cons.1 hd
    simp only [List.map_cons, prodL, List.mem_flatMap, List.mem_map]
    constructor
    · rintro ⟨a, ha, y, hy, rfl⟩
      obtain ⟨g, hg, rfl⟩ := (mem_prodL h2).1 hy
      refine ⟨fun k => if k = x then a else g k, fun k hk => ?_, ?_⟩
      · rcases List.mem_cons.1 hk with rfl | hk
        · simp only [if_true]; exact ha
        · have : k ≠ x := fun e => h1 (e ▸ hk)
          simp only [if_neg this]; exact hg k hk
      · rw [orL]
        simp only [if_true]
        rw [orL_congr (g := fun k => if k = x then a else g k) (g' := g) (L := L) (fun k hk => if_neg (fun e : k = x => h1 (e ▸ hk)))]
    · rintro ⟨g, hg, rfl⟩
      exact ⟨g x, hg x (List.mem_cons_self ..), orL g L, (mem_prodL h2).2 ⟨g, fun k hk => hg k (List.mem_cons_of_mem _ hk), rfl⟩, rfl⟩

open Classical in
/-- What of a set lies in a state. -/
noncomputable def restr (K P : List Int) (s : Nat) (k : Int) : Nat := mkB (fun j => s.testBit j && decide (Un P (j : Int) k ∧ (j : Int) ≠ k)) K.length
open Classical in
theorem tb_restr {K P : List Int} {s : Nat} {k : Int} {j : Nat} : (restr K P s k).testBit j = true ↔ j < K.length ∧ s.testBit j = true ∧ Un P (j : Int) k ∧ (j : Int) ≠ k := by
  unfold restr
  rw [testBit_mkB, Bool.and_eq_true, Bool.and_eq_true, decide_eq_true_eq, decide_eq_true_eq]

section
variable {K P : List Int} (hI : Inv K P)
include hI
theorem LP.down {a : Int} {s : Nat} (h : LP K P a s) {k : Nat} (hk : k < K.length) (ep : P.getD k 0 = a) (hb : s.testBit k = true) : LP K P (k : Int) (restr K P s k) := by
  have hT := hI.tree
  have hn := hI.1
  have agree : ∀ j : Int, Un P j (k : Int) → ∀ x ∈ kids P j, s.testBit x.toNat = (restr K P s k).testBit x.toNat := by
    intro j hj x hx
    obtain ⟨m, rfl, m1, m2⟩ := mem_kids.1 hx
    rw [Int.toNat_natCast, Bool.eq_iff_iff, tb_restr]
    have hu : Un P (m : Int) (k : Int) := .up (by omega) (by omega) (by rw [rd_nat, m2]; exact hj)
    constructor
    · intro hm
      refine ⟨by omega, hm, hu, fun e => ?_⟩
      have := hj.le hT
      have := hT m m1
      omega
    · exact fun h => h.2.1
  refine ⟨fun j hj => ?_, ?_, fun j hj => ?_⟩
  · obtain ⟨j1, j2, j3, j4⟩ := tb_restr.1 hj
    obtain ⟨b1, b2, b3, b4, b5⟩ := h.mem j j2
    refine ⟨j1, j4, j3, b4, ?_⟩
    by_cases e : P.getD j 0 = (k : Int)
    · exact .inl e
    · right
      obtain ⟨c1, c2, c3⟩ := j3.cases' j4
      rw [rd_nat] at c3
      have hp0 : 0 ≤ P.getD j 0 := by have := c3.le hT; omega
      refine ⟨hp0, tb_restr.2 ⟨by have := hT j (by omega); omega, ?_, by rw [show (((P.getD j 0).toNat : Nat) : Int) = P.getD j 0 by omega]; exact c3, by omega⟩⟩
      rcases b5 with b5 | b5
      · have l1 := c3.le hT
        have l2 := hT k (by omega)
        omega
      · exact b5.2
  · rw [← heldB_congr (agree k (.refl _))]; exact h.all k hb
  · obtain ⟨j1, j2, j3, j4⟩ := tb_restr.1 hj
    rw [← heldB_congr (agree j j3)]; exact h.all j j2

theorem mem_confs : ∀ (f : Nat) (a : Int), -1 ≤ a → a < K.length → (K.length : Int) - a ≤ f → ∀ s, s ∈ confs K P f a ↔ LP K P a s := by
  have hT := hI.tree
  have hn := hI.1
  intro f
  induction f with
  | zero => intro a h0 h1 h2; omega
  | succ f ih =>
    intro a h0 h1 h2 s
    rw [confs]
    by_cases hs : sk K P a = []
    · rw [if_pos hs, List.mem_singleton]
      have hk := sk_nil hI hs
      constructor
      · rintro rfl
        refine ⟨fun j hj => by simp at hj, ?_, fun j hj => by simp at hj⟩
        unfold heldB; rw [hk]; simp [cnt]
      · intro h
        refine Nat.eq_of_testBit_eq fun j => ?_
        rw [Nat.zero_testBit]
        refine eq_false_of_ne_true fun hj => ?_
        obtain ⟨b1, b2, b3, _⟩ := h.mem j hj
        obtain ⟨k, x, y, _⟩ := b3.kid b2
        have : (k : Int) ∈ kids P a := mem_kids.2 ⟨k, rfl, x, y⟩
        rw [hk] at this; cases this
    · rw [if_neg hs]
      have rc : ∀ k : Nat, k < K.length → P.getD k 0 = a → ∀ s, s ∈ confs K P f (k : Int) ↔ LP K P (k : Int) s := by
        intro k hk ek s
        have := hT k (by omega)
        exact ih k (by omega) (by omega) (by omega) s
      by_cases ha : 0 ≤ a ∧ rd K a = 2
      · rw [if_pos ha]
        have hone : one K a = false := (one_false hI hs).2 ha
        have hall : ∀ x ∈ kids P a, x ∈ sk K P a := fun x hx => List.mem_filter.2 ⟨hx, by
          obtain ⟨_, _, _, h4⟩ := kid_par hI hx (by omega)
          rcases h4 with h4 | h4
          · exact h4
          · omega⟩
        rw [mem_prodL (show (sk K P a).Nodup from List.Pairwise.filter _ (kids_nodup P a))]
        constructor
        · rintro ⟨g, hg, rfl⟩
          have hg' : ∀ k : Nat, (k : Int) ∈ sk K P a → ∃ t, LP K P (k : Int) t ∧ g (k : Int) = 2 ^ k ||| t := by
            intro k hk
            obtain ⟨t, ht, e⟩ := List.mem_map.1 (hg _ hk)
            obtain ⟨m, em, m1, m2⟩ := mem_kids.1 (List.mem_filter.1 hk).1
            obtain rfl : k = m := by omega
            exact ⟨t, (rc k (by omega) m2 t).1 ht, by rw [← e, Int.toNat_natCast]⟩
          have bits : ∀ j : Nat, (orL g (sk K P a)).testBit j = true ↔ ∃ k : Nat, (k : Int) ∈ sk K P a ∧ (k = j ∨ ∃ t, LP K P (k : Int) t ∧ g (k : Int) = 2 ^ k ||| t ∧ t.testBit j = true) := by
            intro j
            rw [tb_orL]
            constructor
            · rintro ⟨x, hx, hb⟩
              obtain ⟨m, rfl, m1, m2⟩ := mem_kids.1 (List.mem_filter.1 hx).1
              obtain ⟨t, ht, e⟩ := hg' m hx
              rw [e, tb_or] at hb
              rcases hb with hb | hb
              · exact ⟨m, hx, .inl hb⟩
              · exact ⟨m, hx, .inr ⟨t, ht, e, hb⟩⟩
            · rintro ⟨k, hk, hb⟩
              refine ⟨(k : Int), hk, ?_⟩
              rcases hb with rfl | ⟨t, ht, e, hb⟩
              · obtain ⟨t, ht, e⟩ := hg' k hk
                rw [e, tb_or]; exact .inl rfl
              · rw [e, tb_or]; exact .inr hb
          have skk : ∀ k : Nat, (k : Int) ∈ sk K P a → k < K.length ∧ P.getD k 0 = a ∧ solidB (K.getD k 0) = true := by
            intro k hk
            obtain ⟨h1, h2⟩ := List.mem_filter.1 hk
            obtain ⟨m, em, m1, m2⟩ := mem_kids.1 h1
            obtain rfl : k = m := by omega
            rw [rd_nat] at h2
            exact ⟨by omega, m2, h2⟩
          -- below a state of one's own the whole is as the part
          have agree : ∀ (k : Nat) (t : Nat), (k : Int) ∈ sk K P a → LP K P (k : Int) t → g (k : Int) = 2 ^ k ||| t → ∀ j : Int, Un P j (k : Int) → ∀ x ∈ kids P j, (orL g (sk K P a)).testBit x.toNat = t.testBit x.toNat := by
            intro k t hk ht e j hj x hx
            obtain ⟨m, rfl, m1, m2⟩ := mem_kids.1 hx
            obtain ⟨k1, k2, _⟩ := skk k hk
            have hu : Un P (m : Int) (k : Int) := .up (by omega) (by omega) (by rw [rd_nat, m2]; exact hj)
            have hmk : m ≠ k := fun e' => by
              have := hj.le hT
              have := hT m m1
              omega
            rw [Int.toNat_natCast, Bool.eq_iff_iff, bits]
            constructor
            · rintro ⟨k', hk', hb⟩
              obtain ⟨k1', k2', _⟩ := skk k' hk'
              have hu' : Un P (m : Int) (k' : Int) := by
                rcases hb with rfl | ⟨t', ht', _, hb⟩
                · exact .refl _
                · exact (ht'.mem m hb).2.2.1
              obtain rfl : k = k' := Un.sib hT (by omega) (by omega) k2 k2' hu hu'
              rcases hb with hb | ⟨t', ht', e', hb⟩
              · exact absurd hb.symm hmk
              · have : (2 ^ k ||| t').testBit m = (2 ^ k ||| t).testBit m := by rw [← e, ← e']
                have h3 : (2 ^ k ||| t).testBit m = true := by rw [← this, tb_or]; exact .inr hb
                rcases tb_or.1 h3 with h3 | h3
                · exact absurd h3.symm hmk
                · exact h3
            · intro hb
              exact ⟨k, hk, .inr ⟨t, ht, e, hb⟩⟩
          refine ⟨fun j hj => ?_, ?_, fun j hj => ?_⟩
          · obtain ⟨k, hk, hb⟩ := (bits j).1 hj
            obtain ⟨k1, k2, k3⟩ := skk k hk
            have hka := hT k (by omega)
            rcases hb with rfl | ⟨t, ht, e, hb⟩
            · exact ⟨k1, by omega, by have := Un.par (P := P) (k := k) (by omega); rwa [k2] at this, k3, .inl k2⟩
            · obtain ⟨b1, b2, b3, b4, b5⟩ := ht.mem j hb
              have l := b3.le hT
              refine ⟨b1, by omega, b3.trans (by have := Un.par (P := P) (k := k) (by omega); rwa [k2] at this), b4, ?_⟩
              rcases b5 with b5 | ⟨b5, b6⟩
              · exact .inr ⟨by omega, (bits _).2 ⟨k, hk, .inl (by omega)⟩⟩
              · exact .inr ⟨b5, (bits _).2 ⟨k, hk, .inr ⟨t, ht, e, b6⟩⟩⟩
          · rw [hone]
            refine held_all.2 fun x hx => ?_
            obtain ⟨m, rfl, m1, m2⟩ := mem_kids.1 hx
            exact (bits _).2 ⟨m, hall _ hx, .inl (by omega)⟩
          · obtain ⟨k, hk, hb⟩ := (bits j).1 hj
            obtain ⟨t, ht, e⟩ := hg' k hk
            rcases hb with rfl | ⟨t', ht', e', hb⟩
            · rw [heldB_congr (agree k t hk ht e k (.refl _))]; exact ht.own
            · rw [heldB_congr (agree k t' hk ht' e' j (ht'.mem j hb).2.2.1)]; exact ht'.all j hb
        · intro h
          have own := held_all.1 (by have := h.own; rwa [hone] at this)
          refine ⟨fun k => 2 ^ k.toNat ||| restr K P s k, fun x hx => ?_, ?_⟩
          · obtain ⟨m, rfl, m1, m2⟩ := mem_kids.1 (List.mem_filter.1 hx).1
            refine List.mem_map.2 ⟨restr K P s m, (rc m (by omega) m2 _).2 (h.down hI (by omega) m2 ?_), rfl⟩
            have := own _ (List.mem_filter.1 hx).1
            rwa [Int.toNat_natCast] at this
          · refine Nat.eq_of_testBit_eq fun j => ?_
            rw [Bool.eq_iff_iff, tb_orL]
            constructor
            · intro hj
              obtain ⟨b1, b2, b3, b4, b5⟩ := h.mem j hj
              obtain ⟨k, x, y, z⟩ := b3.kid b2
              refine ⟨(k : Int), hall _ (mem_kids.2 ⟨k, rfl, x, y⟩), ?_⟩
              rw [Int.toNat_natCast, tb_or]
              by_cases e : k = j
              · exact .inl e
              · exact .inr (tb_restr.2 ⟨b1, hj, z, by omega⟩)
            · rintro ⟨x, hx, hb⟩
              obtain ⟨m, rfl, m1, m2⟩ := mem_kids.1 (List.mem_filter.1 hx).1
              rw [Int.toNat_natCast, tb_or] at hb
              rcases hb with rfl | hb
              · have := own _ (List.mem_filter.1 hx).1
                rwa [Int.toNat_natCast] at this
              · exact (tb_restr.1 hb).2.1
      · rw [if_neg ha]
        have hone : one K a = true := by
          cases h : one K a with
          | true => rfl
          | false => exact absurd ((one_false hI hs).1 h) ha
        rw [List.mem_flatMap]
        constructor
        · rintro ⟨x, hx, hm⟩
          obtain ⟨hx1, hx2⟩ := List.mem_filter.1 hx
          obtain ⟨k, rfl, k1, k2⟩ := mem_kids.1 hx1
          obtain ⟨t, ht, rfl⟩ := List.mem_map.1 hm
          rw [Int.toNat_natCast]
          rw [rd_nat] at hx2
          have ht := (rc k (by omega) k2 t).1 ht
          have hka := hT k (by omega)
          have agree : ∀ j : Int, Un P j (k : Int) → ∀ x ∈ kids P j, (2 ^ k ||| t).testBit x.toNat = t.testBit x.toNat := by
            intro j hj x hx
            obtain ⟨m, rfl, m1, m2⟩ := mem_kids.1 hx
            rw [Int.toNat_natCast, Bool.eq_iff_iff, tb_or]
            constructor
            · rintro (e | h)
              · have := hj.le hT
                have := hT m m1
                omega
              · exact h
            · exact .inr
          have hpar : Un P (k : Int) a := by have := Un.par (P := P) (k := k) (by omega); rwa [k2] at this
          refine ⟨fun j hj => ?_, ?_, fun j hj => ?_⟩
          · rcases tb_or.1 hj with rfl | hb
            · exact ⟨by omega, by omega, hpar, hx2, .inl k2⟩
            · obtain ⟨b1, b2, b3, b4, b5⟩ := ht.mem j hb
              have l := b3.le hT
              refine ⟨b1, by omega, b3.trans hpar, b4, ?_⟩
              rcases b5 with b5 | ⟨b5, b6⟩
              · exact .inr ⟨by omega, tb_or.2 (.inl (by omega))⟩
              · exact .inr ⟨b5, tb_or.2 (.inr b6)⟩
          · rw [hone]
            refine held_one.2 (.inr ⟨(k : Int), hx1, by rw [Int.toNat_natCast, tb_or]; exact .inl rfl, fun m hm hb => ?_⟩)
            obtain ⟨m, rfl, m1, m2⟩ := mem_kids.1 hm
            rw [Int.toNat_natCast, tb_or] at hb
            rcases hb with rfl | hb
            · rfl
            · have := Un.sib hT (by omega) m1 k2 m2 (ht.mem m hb).2.2.1 (.refl _)
              omega
          · rcases tb_or.1 hj with rfl | hb
            · rw [heldB_congr (agree k (.refl _))]; exact ht.own
            · rw [heldB_congr (agree j (ht.mem j hb).2.2.1)]; exact ht.all j hb
        · intro h
          have own := held_one.1 (by have := h.own; rwa [hone] at this)
          rcases own with own | ⟨x, hx, hb, hu⟩
          · exfalso
            apply hs
            unfold sk; rw [own]; rfl
          · obtain ⟨k, rfl, k1, k2⟩ := mem_kids.1 hx
            rw [Int.toNat_natCast] at hb
            have hsol := (h.mem k hb).2.2.2.1
            refine ⟨(k : Int), List.mem_filter.2 ⟨hx, by rw [rd_nat]; exact hsol⟩, List.mem_map.2 ⟨restr K P s k, (rc k (by omega) k2 _).2 (h.down hI (by omega) k2 hb), ?_⟩⟩
            refine Nat.eq_of_testBit_eq fun j => ?_
            rw [Int.toNat_natCast, Bool.eq_iff_iff, tb_or]
            constructor
            · rintro (rfl | h')
              · exact hb
              · exact (tb_restr.1 h').2.1
            · intro hj
              obtain ⟨b1, b2, b3, b4, b5⟩ := h.mem j hj
              obtain ⟨m, m1, m2, m3⟩ := b3.kid b2
              have mk : (m : Int) ∈ kids P a := mem_kids.2 ⟨m, rfl, m1, m2⟩
              have mb := h.clos hI m3 (by omega) (by rw [Int.toNat_natCast]; exact hj) (by have := hT m m1; omega) (by have := Un.par m1; rwa [m2] at this)
              have := hu _ mk mb.2
              have e : m = k := by omega
              subst e
              by_cases e : m = j
              · exact .inl e
              · exact .inr (tb_restr.2 ⟨b1, hj, m3, by omega⟩)
end
end Go.Proofs.Ytnomeokicfpidaa.M
