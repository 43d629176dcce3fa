/-
  What the statements' Of makes out of numbers: a shape that is valid, and the same for the reference. Conditions: a list shorter than 2^40.
-/
import Derived.Test.YtnomeokicfpidaaShpR
import Derived.Test.YtnomeokicfpidaaKeep
import Derived.Test.YtnomeokicfpidaaQx0
import Derived.Test.YtnomeokicfpidaaQx2
namespace Go.Proofs.Ytnomeokicfpidaa.M
open Go.RowKit Go.Proofs.YtnomeokicfpidaaW.PrintWords Go.Proofs.YtnomeokicfpidaaW.PrintLast Go.Proofs.YtnomeokicfpidaaW.PrintMore Go.Proofs.Ytnomeokicfpidaa.Q
set_option linter.unusedVariables false

/-- It comes to an answer of which Q holds. -/
def Ex {α : Type} (g : Nat → Option α) (Q : α → Prop) : Prop := ∃ r, Ev g r ∧ Q r
theorem Ex.st {α : Type} {g f : Nat → Option α} {Q : α → Prop} (h : Ex f Q) (e : ∀ k, g (k + 1) = f k) : Ex g Q := by
  obtain ⟨r, a, b⟩ := h
  exact ⟨r, Ev.st a e, b⟩
theorem Ex.iff {α : Type} {c : Prop} [Decidable c] {f g : Nat → Option α} {Q : α → Prop} (k : c → Ex f Q) (l : ¬ c → Ex g Q) : Ex (fun n => if c then f n else g n) Q := by
  by_cases h : c
  · simpa [h] using k h
  · simpa [h] using l h
theorem Ex.bd {α β : Type} {g : Nat → Option α} {f : Nat → α → Option β} {a : α} {Q : β → Prop} (h : Ev g a) (k : Ex (fun n => f n a) Q) : Ex (fun n => (g n).bind (fun x => f n x)) Q := by
  obtain ⟨r, x, y⟩ := k
  exact ⟨r, Ev.bd h x, y⟩

/-- A list of states, one by one: each is right by itself, and each that goes back stands behind a solid one of its parent. -/
def Inv (K P : List Int) : Prop := P.length = K.length ∧ 1 ≤ K.length ∧ (∀ i, i < K.length → okS K P i = true) ∧
  (∀ i, i < K.length → 3 ≤ K.getD i 0 → ∃ m, m < i ∧ P.getD m 0 = P.getD i 0 ∧ solidB (K.getD m 0) = true) ∧ P.getD 0 0 = -1 ∧ solidB (K.getD 0 0) = true

theorem getD_app_l {l m : List Int} {i : Nat} (h : i < l.length) : (l ++ m).getD i 0 = l.getD i 0 := by
  rw [List.getD_eq_getElem?_getD, List.getElem?_append_left h, ← List.getD_eq_getElem?_getD]
theorem getD_app_r {l : List Int} {x : Int} {i : Nat} (h : i = l.length) : (l ++ [x]).getD i 0 = x := by
  subst h; rw [List.getD_eq_getElem?_getD, List.getElem?_append_right (Nat.le_refl _)]; simp
theorem rd_app_l {l m : List Int} {p : Int} (h0 : 0 ≤ p) (h : p < l.length) : rd (l ++ m) p = rd l p := by
  unfold rd; exact getD_app_l (by omega)

theorem okS_app {K P : List Int} {k p : Int} (hn : P.length = K.length) {i : Nat} (hi : i < K.length) (h : okS K P i = true) : okS (K ++ [k]) (P ++ [p]) i = true := by
  obtain ⟨h1, h2, h3, h4, h5⟩ := okS_iff.1 h
  have eK : (K ++ [k]).getD i 0 = K.getD i 0 := getD_app_l hi
  have eP : (P ++ [p]).getD i 0 = P.getD i 0 := getD_app_l (by omega)
  refine okS_iff.2 ⟨by rw [eK]; exact h1, by rw [eK]; exact h2, by rw [eP]; exact h3, by rw [eP]; exact h4, ?_⟩
  rw [eP, eK]
  by_cases hp : P.getD i 0 = -1
  · rw [if_pos hp] at h5 ⊢; exact h5
  · rw [if_neg hp] at h5 ⊢
    rw [rd_app_l (by omega) (by omega)]; exact h5

theorem Inv.app {K P : List Int} {k p : Int} (h : Inv K P) (hk1 : 1 ≤ k) (hk4 : k ≤ 4) (hp0 : -1 ≤ p) (hp1 : p < K.length)
    (hp : p = -1 ∨ solidB (rd K p) = true) (hh : 3 ≤ k → p ≠ -1 ∧ rd K p = 1 ∧ ∃ m, m < K.length ∧ P.getD m 0 = p ∧ solidB (K.getD m 0) = true) : Inv (K ++ [k]) (P ++ [p]) := by
  obtain ⟨hn, h1, hok, hb, h0, hs⟩ := h
  refine ⟨by simp [hn], by simp, ?_, ?_, by rw [getD_app_l (by omega)]; exact h0, by rw [getD_app_l (by omega)]; exact hs⟩
  · intro i hi
    rw [List.length_append, List.length_singleton] at hi
    by_cases hl : i < K.length
    · exact okS_app hn hl (hok i hl)
    · obtain rfl : i = K.length := by omega
      have eK : (K ++ [k]).getD K.length 0 = k := getD_app_r rfl
      have eP : (P ++ [p]).getD K.length 0 = p := getD_app_r hn.symm
      refine okS_iff.2 ⟨by rw [eK]; exact hk1, by rw [eK]; exact hk4, by rw [eP]; exact hp0, by rw [eP]; exact hp1, ?_⟩
      rw [eK, eP]
      by_cases hq : p = -1
      · rw [if_pos hq]
        exact solidB_iff.2 (by
          by_cases h3 : 3 ≤ k
          · exact absurd hq (hh h3).1
          · omega)
      · rw [if_neg hq, rd_app_l (by omega) hp1]
        rcases hp with hp | hp
        · exact absurd hp hq
        · rw [hp, Bool.true_and]
          by_cases h3 : 3 ≤ k
          · rw [(hh h3).2.1]; simp
          · rw [solidB_iff.2 (by omega)]; rfl
  · intro i hi h3
    rw [List.length_append, List.length_singleton] at hi
    by_cases hl : i < K.length
    · rw [getD_app_l hl] at h3
      obtain ⟨m, a, b, c⟩ := hb i hl h3
      exact ⟨m, a, by rw [getD_app_l (by omega), getD_app_l (by omega)]; exact b, by rw [getD_app_l (by omega)]; exact c⟩
    · obtain rfl : i = K.length := by omega
      rw [getD_app_r rfl] at h3
      obtain ⟨_, _, m, a, b, c⟩ := hh h3
      exact ⟨m, a, by rw [getD_app_l (by omega), getD_app_r hn.symm]; exact b, by rw [getD_app_l a]; exact c⟩

theorem firstSolid_pos {K L : List Int} (hL : ∀ x ∈ L, 0 ≤ x) {x : Int} (hx : x ∈ L) (hs : solidB (rd K x) = true) : 0 ≤ firstSolid K L := by
  induction L with
  | nil => cases hx
  | cons y L ih =>
    rw [firstSolid]
    by_cases hy : solidB (rd K y) = true
    · rw [if_pos hy]; exact hL y (List.mem_cons_self ..)
    · rw [if_neg hy]
      rcases List.mem_cons.1 hx with rfl | hx
      · exact absurd hs hy
      · exact ih (fun z hz => hL z (List.mem_cons_of_mem _ hz)) hx

theorem Inv.initial {K P : List Int} (h : Inv K P) {a : Int} {i : Nat} (hi : i < K.length) (ha : P.getD i 0 = a) : 0 ≤ initial K P a := by
  obtain ⟨hn, h1, hok, hb, h0, hs⟩ := h
  have : ∃ m : Nat, m < K.length ∧ P.getD m 0 = a ∧ solidB (K.getD m 0) = true := by
    obtain ⟨a1, a2, _⟩ := okS_iff.1 (hok i hi)
    by_cases h3 : 3 ≤ K.getD i 0
    · obtain ⟨m, b, c, d⟩ := hb i hi h3
      exact ⟨m, by omega, by rw [c, ha], d⟩
    · exact ⟨i, hi, ha, solidB_iff.2 (by omega)⟩
  obtain ⟨m, b, c, d⟩ := this
  exact firstSolid_pos (fun x hx => (kids_in hn a x hx).1) (mem_kids.2 ⟨m, rfl, by omega, c⟩) (by rw [rd_nat]; exact d)

theorem Inv.valid {K P : List Int} (h : Inv K P) (h24 : K.length ≤ 24) : validB K P = true := by
  have hI := h
  obtain ⟨hn, h1, hok, hb, h0, hs⟩ := h
  unfold validB compsB
  rw [decide_eq_true ⟨h1, h24, hn⟩, Bool.true_and, Bool.and_eq_true, Bool.and_eq_true, List.all_eq_true, List.all_eq_true]
  refine ⟨fun i hi => hok i (by rw [List.mem_range'_1] at hi; omega), ?_, fun i hi => ?_⟩
  · unfold compB; rw [decide_eq_true (hI.initial (i := 0) (by omega) h0)]; simp
  · unfold compB
    by_cases hk : (kids P (i : Int)).isEmpty
    · rw [hk, show ((i : Int) != -1) = true from bne_iff_ne.mpr (by omega)]; rfl
    · have : ∃ x, x ∈ kids P (i : Int) := by
        cases hl : kids P (i : Int) with
        | nil => rw [hl] at hk; exact absurd rfl hk
        | cons x _ => exact ⟨x, List.mem_cons_self ..⟩
      obtain ⟨x, hx⟩ := this
      obtain ⟨j, rfl, b, c⟩ := mem_kids.1 hx
      rw [decide_eq_true (hI.initial (by omega) c)]; simp

/-- What Of hands back. -/
def OfPost (l : List Int) (r : List Int × List Int × List Int × List Int) : Prop :=
  Inv r.1 r.2.1 ∧ r.2.2.1 = r.1 ∧ r.2.2.2 = r.2.1 ∧ r.1.length = max 1 (min l.length 12)

theorem copy2 (K P : List Int) (hK : K.length < 17592186044416) (hP : P.length < 17592186044416) : ((imprimaturkeep_Copy_int.f K).bind fun t1 => ((imprimaturkeep_Copy_int.f P).bind fun t2 => (some (K, P, t1, t2)))) = some (K, P, K, P) := by
  rw [copy_f K hK, Option.bind_some, copy_f P hP, Option.bind_some]

theorem getD_set {l : List Int} {i j : Nat} {x : Int} (h : i < l.length) : (l.set i x).getD j 0 = if i = j then x else l.getD j 0 := by
  rw [List.getD_eq_getElem?_getD, List.getElem?_set, List.getD_eq_getElem?_getD]
  by_cases e : i = j
  · rw [if_pos e, if_pos e, if_pos h]; rfl
  · rw [if_neg e, if_neg e]

/-- Half way: those ahead of i that go back out of 0 have become plain. -/
def Inv2 (K P : List Int) (i : Nat) : Prop := P.length = K.length ∧ 1 ≤ K.length ∧ P.getD 0 0 = -1 ∧ K.getD 0 0 = 2 ∧
  (∀ j, j < K.length → 1 ≤ K.getD j 0 ∧ K.getD j 0 ≤ 4 ∧ -1 ≤ P.getD j 0 ∧ P.getD j 0 < j ∧ (P.getD j 0 = -1 → solidB (K.getD j 0) = true) ∧ (P.getD j 0 ≠ -1 → solidB (rd K (P.getD j 0)) = true)
    ∧ (P.getD j 0 ≠ -1 → solidB (K.getD j 0) = true ∨ rd K (P.getD j 0) = 1 ∨ (P.getD j 0 = 0 ∧ i ≤ j))) ∧
  (∀ j, j < K.length → 3 ≤ K.getD j 0 → ∃ m, m < j ∧ P.getD m 0 = P.getD j 0 ∧ solidB (K.getD m 0) = true)

theorem Inv2.done {K P : List Int} {i : Nat} (h : Inv2 K P i) (hi : K.length ≤ i) : Inv K P := by
  obtain ⟨hn, h1, h0, h2, hok, hb⟩ := h
  refine ⟨hn, h1, fun j hj => ?_, hb, h0, by rw [h2]; rfl⟩
  obtain ⟨a1, a2, a3, a4, a5, a6, a7⟩ := hok j hj
  refine okS_iff.2 ⟨a1, a2, a3, a4, ?_⟩
  by_cases hp : P.getD j 0 = -1
  · rw [if_pos hp]; exact a5 hp
  · rw [if_neg hp, a6 hp, Bool.true_and]
    rcases a7 hp with h | h | h
    · rw [h]; rfl
    · rw [h]; simp
    · omega
theorem Inv2.start {K P : List Int} (h : Inv K P) : Inv2 (K.set 0 2) P 0 := by
  obtain ⟨hn, h1, hok, hb, h0, hs⟩ := h
  have g : ∀ j, (K.set 0 2).getD j 0 = if 0 = j then 2 else K.getD j 0 := fun j => getD_set (by omega)
  have gs : ∀ j, solidB (K.getD j 0) = true → solidB ((K.set 0 2).getD j 0) = true := fun j hj => by
    rw [g]
    by_cases e : 0 = j
    · rw [if_pos e]; rfl
    · rw [if_neg e]; exact hj
  refine ⟨by rw [List.length_set]; exact hn, by rw [List.length_set]; exact h1, h0, by rw [g]; rfl, fun j hj => ?_, fun j hj h3 => ?_⟩
  · rw [List.length_set] at hj
    obtain ⟨a1, a2, a3, a4, a5⟩ := okS_iff.1 (hok j hj)
    have b : 1 ≤ (K.set 0 2).getD j 0 ∧ (K.set 0 2).getD j 0 ≤ 4 := by rw [g]; split <;> omega
    refine ⟨b.1, b.2, a3, a4, fun hp => ?_, fun hp => ?_, fun hp => ?_⟩
    · rw [if_pos hp] at a5; exact gs j a5
    · rw [if_neg hp, Bool.and_eq_true] at a5
      have := gs (P.getD j 0).toNat a5.1
      exact this
    · rw [if_neg hp, Bool.and_eq_true, Bool.or_eq_true] at a5
      rcases a5.2 with h | h
      · exact .inl (gs j h)
      · by_cases hz : P.getD j 0 = 0
        · exact .inr (.inr ⟨hz, Nat.zero_le _⟩)
        · refine .inr (.inl ?_)
          unfold rd at h ⊢
          rw [g, if_neg (by omega)]; exact eq_of_beq h
  · rw [List.length_set] at hj
    have hj0 : ¬ 0 = j := by intro e; rw [g, if_pos e] at h3; omega
    rw [g, if_neg hj0] at h3
    obtain ⟨m, a, b, c⟩ := hb j hj h3
    exact ⟨m, a, b, gs m c⟩
theorem Inv2.keep {K P : List Int} {i : Nat} (h : Inv2 K P i) (hc : ¬ (P.getD i 0 = 0 ∧ 3 ≤ K.getD i 0)) : Inv2 K P (i + 1) := by
  obtain ⟨hn, h1, h0, h2, hok, hb⟩ := h
  refine ⟨hn, h1, h0, h2, fun j hj => ?_, hb⟩
  obtain ⟨a1, a2, a3, a4, a5, a6, a7⟩ := hok j hj
  refine ⟨a1, a2, a3, a4, a5, a6, fun hp => ?_⟩
  rcases a7 hp with h | h | ⟨h, hi⟩
  · exact .inl h
  · exact .inr (.inl h)
  · by_cases e : i = j
    · subst e
      exact .inl (solidB_iff.2 (by omega))
    · exact .inr (.inr ⟨h, by omega⟩)
theorem Inv2.turn {K P : List Int} {i : Nat} (h : Inv2 K P i) (hi : i < K.length) (hp0 : P.getD i 0 = 0) (h3 : 3 ≤ K.getD i 0) : Inv2 (K.set i 1) P (i + 1) := by
  obtain ⟨hn, h1, h0, h2, hok, hb⟩ := h
  have g : ∀ j, (K.set i 1).getD j 0 = if i = j then 1 else K.getD j 0 := fun j => getD_set hi
  have gs : ∀ j, solidB (K.getD j 0) = true → solidB ((K.set i 1).getD j 0) = true := fun j hj => by
    rw [g]
    by_cases e : i = j
    · rw [if_pos e]; rfl
    · rw [if_neg e]; exact hj
  have hi0 : i ≠ 0 := by intro e; rw [e] at h3; omega
  refine ⟨by rw [List.length_set]; exact hn, by rw [List.length_set]; exact h1, h0, by rw [g, if_neg hi0]; exact h2, fun j hj => ?_, fun j hj hj3 => ?_⟩
  · rw [List.length_set] at hj
    obtain ⟨a1, a2, a3, a4, a5, a6, a7⟩ := hok j hj
    have b : 1 ≤ (K.set i 1).getD j 0 ∧ (K.set i 1).getD j 0 ≤ 4 := by rw [g]; split <;> omega
    refine ⟨b.1, b.2, a3, a4, fun hp => gs j (a5 hp), fun hp => gs _ (a6 hp), fun hp => ?_⟩
    rcases a7 hp with h | h | ⟨h, hij⟩
    · exact .inl (gs j h)
    · refine .inr (.inl ?_)
      unfold rd at h ⊢
      rw [g]
      by_cases e : i = (P.getD j 0).toNat
      · rw [if_pos e]
      · rw [if_neg e]; exact h
    · by_cases e : i = j
      · subst e
        exact .inl (by rw [g, if_pos rfl]; rfl)
      · exact .inr (.inr ⟨h, by omega⟩)
  · rw [List.length_set] at hj
    have hji : ¬ i = j := by intro e; rw [g, if_pos e] at hj3; omega
    rw [g, if_neg hji] at hj3
    obtain ⟨m, a, b, c⟩ := hb j hj hj3
    exact ⟨m, a, b, gs m c⟩
end Go.Proofs.Ytnomeokicfpidaa.M
