-- merged and slimmed by slim.py (a program of this repo)
import Derived.Test.YtnomeokicfpidaaKEnterSelf12
import Derived.Test.YtnomeokicfpidaaKEnterSelf0
import Derived.Test.YtnomeokicfpidaaKEnterSelf2
import Derived.Test.YtnomeokicfpidaaKEnterSelf3
import Derived.Test.YtnomeokicfpidaaKEnterSelf5
import Derived.Test.YtnomeokicfpidaaKEnterSelf7
import Derived.Test.YtnomeokicfpidaaKEnterSelf6
import Derived.Test.YtnomeokicfpidaaKEnterSelf10
import Derived.Test.YtnomeokicfpidaaKEnterSelf1
import Derived.Test.YtnomeokicfpidaaKEnterSelf11
import Derived.Deep.Matrix
import Derived.Test.YtnomeokicfpidaaWMore
import Derived.Test.YtnomeokicfpidaaWNEv
namespace Go.Proofs.Ytnomeokicfpidaa.M
open Go.RowKit Go.Proofs.YtnomeokicfpidaaW.PrintWords Go.Proofs.YtnomeokicfpidaaW.PrintLast Go.Proofs.YtnomeokicfpidaaW.PrintMore Go.Proofs.Ytnomeokicfpidaa.Q
set_option linter.unusedVariables false
theorem rd_mid (pre : List Int) (x : Int) (rest : List Int) : rd (pre ++ x :: rest) (pre.length : Int) = x := by
 rw [rd_nat]; simp [List.getD_eq_getElem?_getD]
section
variable {K P : List Int} {ls : List Int} {Q : Int → Prop}
theorem cfg_l2 (T L : List Int) (x6 : Int) (hT : T.length + L.length < 1000) (hL : ∀ x ∈ L, 0 ≤ x ∧ x < 32) : ∀ (rest pre : List Int) (s : Nat), L = pre ++ rest → s < 4294967296 →
  Ex (fun k => imprimaturlaw06_Config.l0 k ls ((bs rest s : Nat) : Int) x6 (T ++ L) K P) Q →
  Ex (fun k => imprimaturlaw06_Config.l2 k ls (s : Int) x6 T L L (L.length : Int) (pre.length : Int) K P) Q := by
 intro rest
 induction rest with
 | nil =>
  intro pre s hp hs h
  refine Ex.st h (fun k => ?_)
  simp only [imprimaturlaw06_Config.l2]
  have : L.length = pre.length := by rw [hp, List.append_nil]
  rw [if_neg (by omega), if_pos (by omega)]; rfl
 | cons x rest ih =>
  intro pre s hp hs h
  have hx := hL x (by rw [hp]; simp)
  have hlen : L.length = pre.length + (rest.length + 1) := by rw [hp]; simp
  have hr : rd L (pre.length : Int) = x := by rw [hp]; exact rd_mid pre x rest
  obtain ⟨j, rfl⟩ : ∃ j : Nat, x = (j : Int) := ⟨x.toNat, by omega⟩
  have hb : s ||| 2 ^ j < 4294967296 := Nat.or_lt_two_pow (n := 32) hs (pow_lt32 (by omega))
  refine Ex.st (ih (pre ++ [(j : Int)]) (s ||| 2 ^ j) (by rw [hp]; simp) hb h) (fun k => ?_)
  simp only [imprimaturlaw06_Config.l2]
  rw [if_pos (by omega), if_pos (by omega), if_pos (by omega), hr, u64w j (by omega), if_pos (by omega), shl_one j (by omega), u32_or s (2 ^ j) hs (pow_lt32 (by omega)), w1 _ (by omega)]
  congr 1
  rw [List.length_append]; rfl
theorem cfg_j2 (hI : Inv K P) (h24 : K.length ≤ 24) (T L : List Int) (a x6 : Int) (h6 : 0 ≤ x6) (h6' : x6 < 1000) (s : Nat) (hs : s < 4294967296) (hT : T.length < 100) (hL : L = sk K P a)
  (h : ∀ (L' : List Int) (x6' : Int), (∀ x ∈ L', x ∈ sk K P a) → L'.Nodup → (sk K P a = [] ∨ (one K a = true ∧ ∃ k, L' = [k]) ∨ (one K a = false ∧ L' = sk K P a)) → 0 ≤ x6' → x6' ≤ x6 + 1 →
   Ex (fun k => imprimaturlaw06_Config.l0 k ls ((bs L' s : Nat) : Int) x6' (T ++ L') K P) Q) :
  Ex (fun k => imprimaturlaw06_Config.j2 k ls (s : Int) x6 T L (one K a && decide ((L.length : Int) > 1)) K P) Q := by
 have hn := hI.1
 have hin : ∀ x ∈ sk K P a, 0 ≤ x ∧ x < 32 := fun x hx => by
  have := kids_in hn a x (List.mem_filter.1 hx).1
  omega
 have hlen : (sk K P a).length ≤ 24 := Nat.le_trans (List.length_filter_le _ _) (Nat.le_trans (kids_len P a) (by omega))
 have hnd : (sk K P a).Nodup := List.Pairwise.filter _ (kids_nodup P a)
 subst hL
 have pick : ∀ v : Int, one K a = true → (1 : Int) < ((sk K P a).length : Int) → Ex (fun k => imprimaturlaw06_Config.j3 k ls (s : Int) (wrap64 (x6 + 1)) T (((sk K P a).take ((wrap64 (v % ((sk K P a).length : Int) + 1)) : Int).toNat).drop (v % ((sk K P a).length : Int)).toNat) K P) Q := by
  intro v ho hl
  have h0 := Int.emod_nonneg v (show ((sk K P a).length : Int) ≠ 0 by omega)
  have h1 := Int.emod_lt_of_pos v (show 0 < ((sk K P a).length : Int) by omega)
  generalize v % ((sk K P a).length : Int) = t at h0 h1
  obtain ⟨i, rfl⟩ : ∃ i : Nat, t = (i : Int) := ⟨t.toNat, by omega⟩
  have hi : i < (sk K P a).length := by omega
  rw [w1 i (by omega), Int.toNat_natCast, Int.toNat_natCast]
  have e : ((sk K P a).take (i + 1)).drop i = [(sk K P a)[i]] := by
   rw [List.take_succ_eq_append_getElem hi, List.drop_append_of_le_length (by rw [List.length_take]; omega), List.drop_eq_nil_of_le (by rw [List.length_take]; omega)]; rfl
  rw [e]
  have hm : (sk K P a)[i] ∈ sk K P a := List.getElem_mem hi
  have w6 : wrap64 (x6 + 1) = x6 + 1 := w64 (by omega) (by omega)
  rw [w6]
  refine Ex.st (cfg_l2 T [(sk K P a)[i]] (x6 + 1) (by simp only [List.length_singleton]; omega) (fun x hx => by rw [List.mem_singleton] at hx; rw [hx]; exact hin _ hm) [(sk K P a)[i]] [] s rfl hs
   (h [(sk K P a)[i]] (x6 + 1) (fun x hx => by rw [List.mem_singleton] at hx; rw [hx]; exact hm) (by simp) (.inr (.inl ⟨ho, _, rfl⟩)) (by omega) (by omega))) (fun k => ?_)
  simp only [imprimaturlaw06_Config.j3]; rfl
 by_cases hc : one K a = true ∧ ((sk K P a).length : Int) > 1
 ·rw [hc.1, Bool.true_and, decide_eq_true hc.2]
  by_cases hv : x6 < (ls.length : Int)
  ·refine Ex.st (pick (rd ls x6) hc.1 hc.2) (fun k => ?_)
   simp only [imprimaturlaw06_Config.j2]
   have h0 := Int.emod_nonneg (rd ls x6) (show ((sk K P a).length : Int) ≠ 0 by omega)
   have h1 := Int.emod_lt_of_pos (rd ls x6) (show 0 < ((sk K P a).length : Int) by omega)
   have hw : wrap64 (rd ls x6 % ((sk K P a).length : Int) + 1) = rd ls x6 % ((sk K P a).length : Int) + 1 := w64 (by omega) (by omega)
   rw [if_pos trivial, if_pos hv, if_pos h6, within_f _ _ (by omega) (by omega), Option.bind_some, hw, if_pos h0, if_pos (by omega), if_pos (by omega)]
  ·have hp0 := pick 0 hc.1 hc.2
   have hw0 : imprimaturkeep_Within.f 0 ((sk K P a).length : Int) = some (0 % ((sk K P a).length : Int)) := within_f _ _ (by omega) (by omega)
   rw [Int.zero_emod] at hp0 hw0
   refine Ex.st hp0 (fun k => ?_)
   simp only [imprimaturlaw06_Config.j2]
   have hw : wrap64 (0 + 1) = 1 := w64 (by omega) (by omega)
   rw [if_pos trivial, if_neg hv, hw0, Option.bind_some, hw, if_pos (Int.le_refl 0), if_pos (by decide), if_pos (by omega)]
 ·have hf : (one K a && decide (((sk K P a).length : Int) > 1)) = false := by
   cases ho : one K a with
   | false => rfl
   | true => rw [decide_eq_false (fun e => hc ⟨ho, e⟩)]; rfl
  rw [hf]
  have hcase : sk K P a = [] ∨ (one K a = true ∧ ∃ k, sk K P a = [k]) ∨ (one K a = false ∧ sk K P a = sk K P a) := by
   cases ho : one K a with
   | false => exact .inr (.inr ⟨rfl, rfl⟩)
   | true =>
    have hl : (sk K P a).length ≤ 1 := by
     have : ¬ ((sk K P a).length : Int) > 1 := fun e => hc ⟨ho, e⟩
     omega
    match hS : sk K P a with
    | [] => exact .inl rfl
    | [k] => exact .inr (.inl ⟨rfl, k, rfl⟩)
    | _ :: _ :: _ => rw [hS] at hl; simp at hl
  refine Ex.st (f := fun k => imprimaturlaw06_Config.j3 k ls (s : Int) x6 T (sk K P a) K P) (Ex.st (cfg_l2 T (sk K P a) x6 (by omega) hin (sk K P a) [] s rfl hs (h (sk K P a) x6 (fun x hx => hx) hnd hcase h6 (by omega))) (fun k => ?_)) (fun k => ?_)
  ·simp only [imprimaturlaw06_Config.j3]; rfl
  ·simp only [imprimaturlaw06_Config.j2]
   rw [if_neg (by simp)]
theorem cfg_l1 (hI : Inv K P) (h24 : K.length ≤ 24) (T : List Int) (a x6 : Int) (ha : a < K.length) (h6 : 0 ≤ x6) (h6' : x6 < 1000) (s : Nat) (hs : s < 4294967296) (hT : T.length < 100)
  (h : ∀ (L' : List Int) (x6' : Int), (∀ x ∈ L', x ∈ sk K P a) → L'.Nodup → (sk K P a = [] ∨ (one K a = true ∧ ∃ k, L' = [k]) ∨ (one K a = false ∧ L' = sk K P a)) → 0 ≤ x6' → x6' ≤ x6 + 1 →
   Ex (fun k => imprimaturlaw06_Config.l0 k ls ((bs L' s : Nat) : Int) x6' (T ++ L') K P) Q) (ha1 : -1 ≤ a) :
  ∀ (rest pre acc : List Int), kids P a = pre ++ rest → acc = pre.filter (fun x => solidB (rd K x)) →
  Ex (fun k => imprimaturlaw06_Config.l1 k ls (s : Int) x6 T a acc (kids P a) ((kids P a).length : Int) (pre.length : Int) K P) Q := by
 have hn := hI.1
 have hkl := kids_len P a
 intro rest
 induction rest with
 | nil =>
  intro pre acc hp hacc
  rw [List.append_nil] at hp
  have ea : acc = sk K P a := by rw [hacc, ← hp]; rfl
  have hl : (kids P a).length = pre.length := by rw [hp]
  have hj := cfg_j2 hI h24 T acc a x6 h6 h6' s hs hT ea h
  by_cases h0 : a < 0
  ·refine Ex.st hj (fun k => ?_)
   simp only [imprimaturlaw06_Config.l1]
   rw [if_neg (by omega), if_pos h0, show one K a = true by rw [show a = -1 by omega]; rfl, Bool.true_and]
  ·have eo : one K a = (rd K a == 1) := by unfold one; rw [show (a == -1) = false from beq_eq_false_iff_ne.mpr (by omega)]; rfl
   by_cases h1 : rd K a = 1
   ·refine Ex.st hj (fun k => ?_)
    simp only [imprimaturlaw06_Config.l1]
    rw [if_neg (by omega), if_neg h0, if_pos (by omega), if_pos (by omega), if_pos h1, eo, h1]; rfl
   ·refine Ex.st hj (fun k => ?_)
    simp only [imprimaturlaw06_Config.l1]
    rw [if_neg (by omega), if_neg h0, if_pos (by omega), if_pos (by omega), if_neg h1, eo, show (rd K a == 1) = false from beq_eq_false_iff_ne.mpr h1]; rfl
 | cons x rest ih =>
  intro pre acc hp hacc
  have hlen : (kids P a).length = pre.length + (rest.length + 1) := by rw [hp]; simp
  have hr : rd (kids P a) (pre.length : Int) = x := by rw [hp]; exact rd_mid pre x rest
  have hx := kids_in hn a x (by rw [hp]; simp)
  have hal : acc.length ≤ pre.length := by rw [hacc]; exact List.length_filter_le _ _
  have hok := okS_iff.1 (hI.2.2.1 x.toNat (by omega))
  have er : K.getD x.toNat 0 = rd K x := rfl
  rw [er] at hok
  by_cases hx2 : rd K x ≤ 2
  ·have hsol : solidB (rd K x) = true := solidB_iff.2 (by omega)
   refine Ex.st (ih (pre ++ [x]) (acc ++ [x]) (by rw [hp]; simp) (by rw [hacc, List.filter_append, List.filter_cons, if_pos hsol]; rfl)) (fun k => ?_)
   simp only [imprimaturlaw06_Config.l1]
   rw [if_pos (by omega), if_pos (by omega), if_pos (by omega), hr, if_pos (by omega), if_pos (by omega), if_pos hx2, if_pos (by omega), w1 _ (by omega), List.length_append]; rfl
  ·have hsol : ¬ solidB (rd K x) = true := fun e => by have := solidB_iff.1 e; omega
   refine Ex.st (ih (pre ++ [x]) acc (by rw [hp]; simp) (by rw [hacc, List.filter_append, List.filter_cons, if_neg hsol]; simp)) (fun k => ?_)
   simp only [imprimaturlaw06_Config.l1]
   rw [if_pos (by omega), if_pos (by omega), if_pos (by omega), hr, if_pos (by omega), if_pos (by omega), if_neg hx2, w1 _ (by omega), List.length_append]; rfl
end
theorem cfg_l0 {K P : List Int} (hI : Inv K P) (h24 : K.length ≤ 24) (ls : List Int) : ∀ (d : Nat) (D T : List Int) (s : Nat) (x6 : Int), d + D.length = K.length + 1 → CI K P D T s → 0 ≤ x6 → x6 ≤ D.length →
  Ex (fun k => imprimaturlaw06_Config.l0 k ls (s : Int) x6 T K P) (fun c => ∃ s : Nat, c = s ∧ s < 2 ^ K.length ∧ LP K P (-1) s) := by
 have hn := hI.1
 intro d
 induction d with
 | zero =>
  intro D T s x6 hd hC h0 h1
  have := hC.len hI
  have hT : T = [] := List.length_eq_zero_iff.1 (by omega)
  subst hT
  refine ⟨s, Ev.ret (fun k => ?_), s, rfl, hC.lt hI, hC.done hI⟩
  simp only [imprimaturlaw06_Config.l0]
  rw [if_neg (by simp)]
 | succ d ih =>
  intro D T s x6 hd hC h0 h1
  cases T with
  | nil =>
   refine ⟨s, Ev.ret (fun k => ?_), s, rfl, hC.lt hI, hC.done hI⟩
   simp only [imprimaturlaw06_Config.l0]
   rw [if_neg (by simp)]
  | cons a T =>
   have hlen := hC.len hI
   have hs : s < 4294967296 := Nat.lt_of_lt_of_le (hC.lt hI) (Nat.pow_le_pow_right (by decide) (show K.length ≤ 32 by omega))
   rw [List.length_cons] at hlen
   have ha : -1 ≤ a ∧ a < K.length := by
    rcases hC.el a (List.mem_append_right _ (List.mem_cons_self ..)) with e | ⟨e, f, _⟩ <;> omega
   refine Ex.st (f := fun k => (imprimaturref06_Shape_Kids.f k K P a).bind fun t109 => (imprimaturlaw06_Config.l1 k ls (s : Int) x6 T a ([] : List Int) t109 (t109.length : Int) 0 K P)) (Ex.bd (rKids_f K P a (by omega)) ?_) (fun k => ?_)
   ·refine cfg_l1 hI h24 T a x6 ha.2 h0 (by omega) s hs (by omega) ?_ ha.1 (kids P a) [] [] rfl rfl
    intro L' x6' hL hd' hc a0 a1
    have hp : ∀ x ∈ L', 0 ≤ x := fun x hx => (kids_in hn a x (List.mem_filter.1 (hL x hx)).1).1
    refine ih (D ++ [a]) (T ++ L') (bs L' s) x6' (by rw [List.length_append]; simp; omega) (hC.step hI hL hd' hc (fun j => tb_bs hp)) a0 (by rw [List.length_append]; simp; omega)
   ·simp only [imprimaturlaw06_Config.l0]
    rw [if_pos (by simp only [List.length_cons]; omega), if_pos (by simp only [List.length_cons]; omega), if_pos (by simp only [List.length_cons]; omega)]
    rfl
theorem config_f {K P : List Int} (hI : Inv K P) (h24 : K.length ≤ 24) (ls : List Int) :
  Ex (fun k => imprimaturlaw06_Config.f k K P ls) (fun c => ∃ s : Nat, c = s ∧ s < 2 ^ K.length ∧ LP K P (-1) s) := by
 refine cfg_l0 hI h24 ls (K.length + 1) [] [-1] 0 0 rfl ⟨by simp, fun x hx => .inl (by simpa using hx), fun j => ?_, fun x hx => (List.not_mem_nil hx).elim, by simp⟩ (by omega) (by simp)
 rw [Nat.zero_testBit]
 simp
end Go.Proofs.Ytnomeokicfpidaa.M
namespace Go.Proofs.Ytnomeokicfpidaa.M
open Go.RowKit Go.Proofs.YtnomeokicfpidaaW.PrintWords Go.Proofs.YtnomeokicfpidaaW.PrintLast Go.Proofs.YtnomeokicfpidaaW.PrintMore Go.Proofs.Ytnomeokicfpidaa.Q Go.Proofs.Ytnomeokicfpidaa.EW
set_option linter.unusedVariables false
theorem Ex.step {α : Type} {g f : Nat → Option α} {Q : α → Prop} (e : ∀ k, g (k + 1) = f k) (h : Ex f Q) : Ex g Q := Ex.st h e
theorem Ex.pos {α : Type} {c : Prop} [Decidable c] {f g : Nat → Option α} {Q : α → Prop} (h : c) (k : Ex f Q) : Ex (fun n => if c then f n else g n) Q := by simpa [h] using k
theorem Ex.neg {α : Type} {c : Prop} [Decidable c] {f g : Nat → Option α} {Q : α → Prop} (h : ¬ c) (k : Ex g Q) : Ex (fun n => if c then f n else g n) Q := by simpa [h] using k
theorem Ex.now {α : Type} {r : α} {Q : α → Prop} (h : Q r) : Ex (fun _ => some r) Q := ⟨r, Ev.now r, h⟩
theorem Ex.xbd {α β : Type} {g : Nat → Option α} {f : Nat → α → Option β} {Q : β → Prop} {R : α → Prop} (h : Ex g R) (k : ∀ a, R a → Ex (fun n => f n a) Q) : Ex (fun n => (g n).bind (fun x => f n x)) Q := by
 obtain ⟨a, ha, hr⟩ := h
 exact Ex.bd ha (k a hr)
theorem Ex.som {α β : Type} {f : Nat → α → Option β} {a : α} {Q : β → Prop} (k : Ex (fun n => f n a) Q) : Ex (fun n => (some a).bind (fun x => f n x)) Q := k
theorem and1_lt {x c k : Nat} (hx : x < 4294967296) (hc : c < 4294967296) : x ||| (c &&& 2 ^ k) < 4294967296 :=
 Nat.or_lt_two_pow (n := 32) hx (Nat.lt_of_le_of_lt Nat.and_le_left hc)
theorem and1_lt' {c k : Nat} (hc : c < 4294967296) : c &&& 2 ^ k < 4294967296 := Nat.lt_of_le_of_lt Nat.and_le_left hc
theorem tb_and1 {x c k j : Nat} : (x ||| (c &&& 2 ^ k)).testBit j = true ↔ x.testBit j = true ∨ (j = k ∧ c.testBit j = true) := by
 rw [Nat.testBit_or, Nat.testBit_and, Nat.testBit_two_pow, Bool.or_eq_true, Bool.and_eq_true, decide_eq_true_eq]
 constructor
 ·rintro (h | ⟨h, e⟩)
  ·exact .inl h
  ·exact .inr ⟨e.symm, h⟩
 ·rintro (h | ⟨e, h⟩)
  ·exact .inl h
  ·exact .inr ⟨h, e.symm⟩
def PE (K P : List Int) (i : Nat) (q : Nat) : Prop := q < 4294967296 ∧ (q = 0 ∨ ∃ s : Nat, s < 4294967296 ∧ LP K P (-1) s ∧ s.testBit i = true ∧ ∀ j : Nat, q.testBit j = true ↔ j < K.length ∧ (j : Int) ≠ i ∧ Un P (j : Int) i ∧ s.testBit j = true)
def PQ (K P Q : List Int) : Prop := Q.length ≤ K.length ∧ ∀ i : Nat, i < Q.length → ∃ q : Nat, Q.getD i 0 = (q : Int) ∧ PE K P i q
theorem PQ.app {K P Q : List Int} (h : PQ K P Q) (hl : Q.length < K.length) {q : Nat} (hq : PE K P Q.length q) : PQ K P (Q ++ [(q : Int)]) := by
 refine ⟨by simp; omega, fun i hi => ?_⟩
 rw [List.length_append, List.length_singleton] at hi
 by_cases e : i = Q.length
 ·exact ⟨q, getD_app_r e, e ▸ hq⟩
 ·rw [getD_app_l (by omega)]
  exact h.2 i (by omega)
theorem past_l1 {K P : List Int} (hn : P.length = K.length) (hT : Tree P) (h24 : K.length ≤ 24) (ls : List (List Int)) (Q : List Int) (i c : Nat) (hQ : Q.length < 1000) (hi : i < K.length) (hc : c < 4294967296) (hci : c < 2 ^ K.length) {Post : List Int → Prop}
  (next : ∀ q : Nat, q < 4294967296 → (∀ j : Nat, q.testBit j = true ↔ j < K.length ∧ (j : Int) ≠ i ∧ Un P (j : Int) i ∧ c.testBit i = true ∧ c.testBit j = true) → Ex (fun k => imprimaturlaw07_Past.l0 k ls (Q ++ [(q : Int)]) ((i + 1 : Nat) : Int) K P) Post) :
  ∀ (d x q : Nat), x + d = K.length → q < 4294967296 → (∀ j : Nat, q.testBit j = true ↔ j < x ∧ (j : Int) ≠ i ∧ Un P (j : Int) i ∧ c.testBit i = true ∧ c.testBit j = true) →
  Ex (fun k => imprimaturlaw07_Past.l1 k ls Q (i : Int) (q : Int) (c : Int) (K.length : Int) (x : Int) K P) Post := by
 intro d
 induction d with
 | zero =>
  intro x q hx hq hb
  refine Ex.step (fun k => imprimaturlaw07_Past.l1.eq_2 ..) ?_
  refine Ex.neg (by omega) (Ex.pos (by omega) ?_)
  rw [w1 i (by omega)]
  exact next q hq (fun j => by rw [hb, show x = K.length by omega])
 | succ d ih =>
  intro x q hx hq hb
  have keep : ¬ ((x : Int) ≠ i ∧ Un P (x : Int) i ∧ c.testBit i = true ∧ c.testBit x = true) → Ex (fun k => imprimaturlaw07_Past.l1 k ls Q (i : Int) (q : Int) (c : Int) (K.length : Int) ((x + 1 : Nat) : Int) K P) Post := fun h => by
   refine ih (x + 1) q (by omega) hq (fun j => ?_)
   rw [hb]
   constructor
   ·rintro ⟨a, b⟩; exact ⟨by omega, b⟩
   ·rintro ⟨a, b⟩
    refine ⟨?_, b⟩
    by_cases e : j = x
    ·subst e; exact absurd b h
    ·omega
  refine Ex.step (fun k => imprimaturlaw07_Past.l1.eq_2 ..) ?_
  refine Ex.pos (by omega) ?_
  rw [w1 x (by omega), u64w i (by omega), u64w x (by omega)]
  by_cases e : (x : Int) = i
  ·exact Ex.pos e (keep (fun h => h.1 e))
  ·refine Ex.neg e (Ex.bd (rUnder_f hn hT (by omega) (by omega) (by omega) (by omega)) ?_)
   by_cases u : unB P (x : Int) i = true
   ·refine Ex.pos u (Ex.pos (by omega) ?_)
    rw [bit1 c i hc]
    by_cases hbi : c.testBit i = true
    ·refine Ex.pos (by rw [if_pos hbi]) (Ex.pos (by omega) ?_)
     rw [shl_one x (by omega), u32_and c _ hc (pow_lt32 (by omega)), u32_or q _ hq (and1_lt' hc)]
     refine ih (x + 1) _ (by omega) (and1_lt hq hc) (fun j => ?_)
     rw [tb_and1, hb]
     have u' := (unB_iff hT (by omega) (by omega)).1 u
     constructor
     ·rintro (⟨a, b⟩ | ⟨rfl, b⟩)
      ·exact ⟨by omega, b⟩
      ·exact ⟨by omega, e, u', hbi, b⟩
     ·rintro ⟨a, b, c', d', e'⟩
      by_cases g : j = x
      ·exact .inr ⟨g, e'⟩
      ·exact .inl ⟨by omega, b, c', d', e'⟩
    ·exact Ex.neg (by rw [if_neg hbi]; simp) (keep (fun h => hbi h.2.2.1))
   ·exact Ex.neg u (keep (fun h => u ((unB_iff hT (by omega) (by omega)).2 h.2.1)))
theorem past_l0 {K P : List Int} (hI : Inv K P) (h24 : K.length ≤ 24) (ls : List (List Int)) : ∀ (d i : Nat) (Q : List Int), i + d = K.length → Q.length = i → PQ K P Q →
  Ex (fun k => imprimaturlaw07_Past.l0 k ls Q (i : Int) K P) (PQ K P) := by
 have hn := hI.1
 have hT := hI.tree
 have h32 : (2 : Nat) ^ K.length ≤ 2 ^ 24 := Nat.pow_le_pow_right (by decide) h24
 have h32' : (2 : Nat) ^ K.length ≤ 16777216 := h32
 clear h32
 intro d
 induction d with
 | zero =>
  intro i Q hi hl hQ
  refine Ex.step (fun k => imprimaturlaw07_Past.l0.eq_2 ..) ?_
  refine Ex.neg (by omega) (Ex.step (fun k => imprimaturlaw07_Past.j1.eq_2 ..) ?_)
  exact Ex.neg (by simp) (Ex.now hQ)
 | succ d ih =>
  intro i Q hi hl hQ
  have nxt : ∀ q : Nat, PE K P i q → Ex (fun k => imprimaturlaw07_Past.l0 k ls (Q ++ [(q : Int)]) ((i + 1 : Nat) : Int) K P) (PQ K P) := fun q hq =>
   ih (i + 1) (Q ++ [(q : Int)]) (by omega) (by simp [hl]) (hQ.app (by omega) (hl ▸ hq))
  have zero : Ex (fun k => imprimaturlaw07_Past.j2 k ls Q (i : Int) 0 false K P) (PQ K P) := by
   refine Ex.step (fun k => imprimaturlaw07_Past.j2.eq_2 ..) ?_
   refine Ex.neg (by simp) (Ex.pos (by omega) ?_)
   rw [w1 i (by omega)]
   exact nxt 0 ⟨by decide, .inl rfl⟩
  refine Ex.step (fun k => imprimaturlaw07_Past.l0.eq_2 ..) ?_
  refine Ex.pos (by omega) (Ex.step (fun k => imprimaturlaw07_Past.j1.eq_2 ..) ?_)
  by_cases hm : (i : Int) < (ls.length : Int)
  ·refine Ex.pos (decide_eq_true hm) (Ex.pos (by omega) (Ex.pos hm ?_))
   by_cases hp : ((rd_L2 ls (i : Int)).length : Int) > 0
   ·refine Ex.pos hp (Ex.pos hp ?_)
    by_cases h3 : (Int.tmod (rd (rd_L2 ls (i : Int)) 0) 3 != 0) = true
    ·rw [h3]
     refine Ex.step (fun k => imprimaturlaw07_Past.j2.eq_2 ..) ?_
     refine Ex.pos rfl (Ex.pos (by omega) (Ex.pos hm (Ex.xbd (config_f hI h24 (rd_L2 ls (i : Int))) ?_)))
     rintro _ ⟨c, rfl, hc, hLP⟩
     refine past_l1 hn hT h24 ls Q i c (by omega) (by omega) (by omega) hc (fun q hq hb => nxt q ⟨hq, ?_⟩) K.length 0 0 (by omega) (by decide) (fun j => by simp)
     by_cases hci : c.testBit i = true
     ·right
      exact ⟨c, by omega, hLP, hci, fun j => by rw [hb]; simp [hci]⟩
     ·left
      refine Nat.eq_of_testBit_eq (fun j => ?_)
      rw [Nat.zero_testBit]
      exact eq_false_of_ne_true (fun h => hci ((hb j).1 h).2.2.2.1)
    ·rw [eq_false_of_ne_true h3]; exact zero
   ·exact Ex.neg hp zero
  ·refine Ex.neg (by rw [decide_eq_false hm]; simp) (Ex.now hQ)
theorem past_f {K P : List Int} (hI : Inv K P) (h24 : K.length ≤ 24) (ls : List (List Int)) : Ex (fun k => imprimaturlaw07_Past.f k K P ls) (PQ K P) := by
 unfold imprimaturlaw07_Past.f
 exact past_l0 hI h24 ls K.length 0 [] (by omega) rfl ⟨by simp, fun i hi => by simp at hi⟩
theorem below_congr {K P : List Int} {s s' a : Int} (h : ∀ j : Nat, j < K.length → (j : Int) ≠ a → unB P j a = true → inB s j = inB s' j) : belowL K P s a = belowL K P s' a := by
 unfold belowL belowFrom
 congr 1
 refine List.filter_congr (fun j hj => ?_)
 have hj' : j < K.length := by have := List.mem_range'_1.1 hj; omega
 by_cases e : (j : Int) = a
 ·simp [e]
 ·by_cases u : unB P j a = true
  ·rw [h j hj' e u]
  ·simp [u]
theorem wasS_nat (Q : List Int) (i : Nat) : wasS Q (i : Int) = if i < Q.length then Q.getD i 0 else 0 := by
 unfold wasS
 rw [if_neg (by omega)]
 by_cases h : i < Q.length
 ·rw [if_neg (by omega), if_pos h, rd_nat]
 ·rw [if_pos (by omega), if_neg h]
theorem inB_zero (j : Nat) : inB 0 (j : Int) = false := by
 have := inB_nat 0 j (by decide)
 rw [Nat.zero_testBit] at this; exact this
theorem below_zero (K P : List Int) (a : Int) : belowL K P 0 a = [] := by
 cases h : belowL K P 0 a with
 | nil => rfl
 | cons x L =>
  have : x ∈ belowL K P 0 a := by rw [h]; simp
  obtain ⟨j, rfl, _, _, h3, _⟩ := mem_below.1 this
  rw [inB_zero] at h3; cases h3
theorem PE.ok {K P : List Int} (hO : Ok K P) {i q : Nat} (h : PE K P i q) : belowL K P (q : Int) (i : Int) = [] ∨ BL K P (i : Int) (belowL K P (q : Int) (i : Int)) := by
 have hn := hO.1
 obtain ⟨hq, rfl | ⟨s, hs, hLP, hi, hb⟩⟩ := h
 ·exact .inl (below_zero K P _)
 ·right
  rw [below_congr (s' := (s : Int)) (fun j hj e u => ?_)]
  ·exact LP.below hO hLP hs (.inr ⟨by omega, by rw [Int.toNat_natCast]; exact hi⟩)
  ·rw [inB_nat q j hq, inB_nat s j hs, Bool.eq_iff_iff, hb]
   exact ⟨fun h => h.2.2.2, fun h => ⟨hj, e, (unB_iff hO.tree (by omega) (by omega)).1 u, h⟩⟩
theorem PQ.ok {K P Q : List Int} (hO : Ok K P) (h : PQ K P Q) : PastOk K P Q := by
 intro i h0 h1
 obtain ⟨i, rfl⟩ : ∃ j : Nat, i = (j : Int) := ⟨i.toNat, by omega⟩
 rw [wasS_nat]
 by_cases hi : i < Q.length
 ·rw [if_pos hi]
  obtain ⟨q, e, hq⟩ := h.2 i hi
  rw [e]; exact hq.ok hO
 ·rw [if_neg hi]; exact .inl (below_zero K P _)
theorem PQ.nil (K P : List Int) : PQ K P [] := ⟨by simp, fun i hi => by simp at hi⟩
end Go.Proofs.Ytnomeokicfpidaa.M
namespace Go.Proofs.Ytnomeokicfpidaa.Q
open Go.RowKit Go.Proofs.YtnomeokicfpidaaW.PrintWords Go.Proofs.YtnomeokicfpidaaW.PrintLast Go.Proofs.YtnomeokicfpidaaW.PrintMore
attribute [local go_sem] max2_int min2_int max_two min_two max_three min_three max_four min_four
set_option linter.unusedVariables false
set_option linter.unusedSimpArgs false
mutual
def enter_remembers.j0 : Nat → Int → Bool → List Int → List Int → Option (Bool)
 | 0, _, _, _, _ => none
 | k + 1, x1, x15, x102000, x102001 => if x15 = true then (some false) else ((shape_Kids.f k x102000 x102001 x1).bind fun t102 => (enter_remembers.l0 k t102 (t102.length : Int) 0 x102000 x102001))
def enter_remembers.l0 : Nat → List Int → Int → Int → List Int → List Int → Option (Bool)
 | 0, _, _, _, _, _ => none
 | k + 1, x18, x19, x20, x102000, x102001 => if x20 < x19 then (if 0 ≤ x20 then (if x20 < (x18.length : Int) then (if 0 ≤ (rd x18 x20) then (if (rd x18 x20) < (x102000.length : Int) then (if (rd x102000 (rd x18 x20)) = 3 then (some true) else (if (rd x102000 (rd x18 x20)) = 4 then (some true) else (enter_remembers.l0 k x18 x19 (wrap64 (x20 + 1)) x102000 x102001))) else (none)) else (none)) else (none)) else (none)) else (some false)
end
def enter_remembers.f (k : Nat) (l0_0 : List Int) (l0_1 : List Int) (a1 : Int) : Option (Bool) := if a1 < 0 then (enter_remembers.j0 k a1 true l0_0 l0_1) else (enter_remembers.j0 k a1 (decide (a1 ≥ (l0_0.length : Int))) l0_0 l0_1)
end Go.Proofs.Ytnomeokicfpidaa.Q
namespace Go.Proofs.Ytnomeokicfpidaa.Q
open Go.RowKit Go.Proofs.YtnomeokicfpidaaW.PrintWords Go.Proofs.YtnomeokicfpidaaW.PrintLast Go.Proofs.YtnomeokicfpidaaW.PrintMore
attribute [local go_sem] max2_int min2_int max_two min_two max_three min_three max_four min_four
set_option linter.unusedVariables false
set_option linter.unusedSimpArgs false
mutual
def enter_Remember.l0 : Nat → Int → List Int → List Int → Int → Int → List Int → List Int → Option (List Int)
 | 0, _, _, _, _, _, _, _ => none
 | k + 1, x1, x9, x21, x22, x23, x102000, x102001 => if x23 < x22 then (if 0 ≤ x23 then (if x23 < (x21.length : Int) then ((enter_remembers.f k x102000 x102001 (rd x21 x23)).bind fun t109 => (if t109 = true then (if 0 ≤ (rd x21 x23) then (if (rd x21 x23) < (x9.length : Int) then ((enter_below.f k x102000 x102001 x1 (rd x21 x23)).bind fun t111 => (enter_Remember.l1 k x1 (x9.set ((rd x21 x23) : Int).toNat 0) (rd x21 x23) x21 x22 x23 t111 (t111.length : Int) 0 x102000 x102001)) else (none)) else (none)) else (enter_Remember.l0 k x1 x9 x21 x22 (wrap64 (x23 + 1)) x102000 x102001))) else (none)) else (none)) else (some x9)
def enter_Remember.l1 : Nat → Int → List Int → Int → List Int → Int → Int → List Int → Int → Int → List Int → List Int → Option (List Int)
 | 0, _, _, _, _, _, _, _, _, _, _, _ => none
 | k + 1, x1, x9, x11, x21, x22, x23, x37, x38, x39, x102000, x102001 => if x39 < x38 then (if 0 ≤ x39 then (if x39 < (x37.length : Int) then (if 0 ≤ x11 then (if x11 < (x9.length : Int) then (if 0 ≤ (rd x37 x39) then (enter_Remember.l1 k x1 (x9.set (x11 : Int).toNat (Go.bits .or .u32 (rd x9 x11) (shl .u32 1 (rd x37 x39)))) x11 x21 x22 x23 x37 x38 (wrap64 (x39 + 1)) x102000 x102001) else (none)) else (none)) else (none)) else (none)) else (none)) else (enter_Remember.l0 k x1 x9 x21 x22 (wrap64 (x23 + 1)) x102000 x102001)
end
def enter_Remember.f (k : Nat) (l0_0 : List Int) (l0_1 : List Int) (a1 : Int) (l2 : List Int) (l3 : List Int) : Option (List Int) := if 0 ≤ (l0_0.length : Int) then (if ((l0_0.length : Int) : Int).toNat ≤ 70368744177664 then ((some (List.replicate ((l0_0.length : Int) : Int).toNat 0 : List Int)).bind fun y102 => (enter_Remember.l0 k a1 (l3.take (min l3.length y102.length) ++ y102.drop (min l3.length y102.length)) l2 (l2.length : Int) 0 l0_0 l0_1)) else (none)) else (none)
def enter_Remember.T11 : Bool × List (List Nat × List Nat) := (true, [([], []), ([], []), ([], []), ([], []), ([2, 3], [2, 3]), ([4], [4]), ([], []), ([6], [6]), ([5, 7], [5, 7]), ([0, 1, 0, 1, 2, 3, 4, 5, 6, 7, 8], [0, 1]), ([9, 8, 0, 1, 2, 3, 4, 5, 6, 7, 8], [8, 9])])
def enter_Remember.B11 : List Nat := [0, 0, 0, 0, 12, 28, 0, 64, 252, 511, 1023]
theorem enter_Remember.tab11 : rtab .any (opsOf Try.f24 11) = enter_Remember.T11 := by kernel_rfl
theorem enter_Remember.bits11 : waitsOk enter_Remember.T11.2 enter_Remember.B11 = true := by kernel_rfl
end Go.Proofs.Ytnomeokicfpidaa.Q
namespace Go.Proofs.Ytnomeokicfpidaa.M
open Go.RowKit Go.Proofs.YtnomeokicfpidaaW.PrintWords Go.Proofs.YtnomeokicfpidaaW.PrintLast Go.Proofs.YtnomeokicfpidaaW.PrintMore Go.Proofs.Ytnomeokicfpidaa.Q Go.Proofs.Ytnomeokicfpidaa.EW
set_option linter.unusedVariables false
def domS (K P : List Int) (z : Int) : Nat → Int → Int
 | 0, _ => -1
 | f + 1, x => if x = -1 then -1 else if rd K x = 1 ∧ x ≠ z ∧ unB P z x = true then x else domS K P z f (rd P x)
def domL (K P : List Int) (a z : Int) : Int := domS K P z (K.length + 1) (rd P a)
section
variable {K P : List Int} (hO : Ok K P)
include hO
theorem domS_spec {z : Int} (z0 : 0 ≤ z) (z1 : z < K.length) : ∀ (f : Nat) (x : Int), -1 ≤ x → x < K.length → x < f →
  -1 ≤ domS K P z f x ∧ domS K P z f x < K.length ∧ one K (domS K P z f x) = true ∧ Un P x (domS K P z f x) ∧ Un P z (domS K P z f x) ∧ z ≠ domS K P z f x := by
 have hT := hO.tree
 have hn := hO.1
 have top : ∀ x : Int, -1 ≤ x → x < K.length → Un P x (-1) := fun x a b => Un.top hT (K.length) x b a (by omega)
 intro f
 induction f with
 | zero =>
  intro x x0 x1 x2
  rw [domS]
  exact ⟨by omega, by omega, rfl, top x x0 x1, top z (by omega) z1, by omega⟩
 | succ f ih =>
  intro x x0 x1 x2
  rw [domS]
  by_cases e : x = -1
  ·rw [if_pos e]
   exact ⟨by omega, by omega, rfl, top x x0 x1, top z (by omega) z1, by omega⟩
  ·rw [if_neg e]
   by_cases c : rd K x = 1 ∧ x ≠ z ∧ unB P z x = true
   ·rw [if_pos c]
    exact ⟨x0, x1, (one_of (by omega)).2 c.1, .refl _, (unB_iff hT (by omega) (by omega)).1 c.2.2, fun h => c.2.1 h.symm⟩
   ·rw [if_neg c]
    have hp := hT.rdP (a := x) (by omega) (by omega)
    obtain ⟨a1, a2, a3, a4, a5, a6⟩ := ih (rd P x) (by omega) (by omega) (by omega)
    exact ⟨a1, a2, a3, .up (by omega) (by omega) a4, a5, a6⟩
theorem domL_spec {a z : Int} (a0 : 0 ≤ a) (a1 : a < K.length) (z0 : 0 ≤ z) (z1 : z < K.length) :
  -1 ≤ domL K P a z ∧ domL K P a z < a ∧ one K (domL K P a z) = true ∧ Un P a (domL K P a z) ∧ Un P z (domL K P a z) ∧ z ≠ domL K P a z := by
 have hT := hO.tree
 have hn := hO.1
 have hp := hT.rdP a0 (by omega)
 obtain ⟨b1, b2, b3, b4, b5, b6⟩ := domS_spec hO z0 z1 (K.length + 1) (rd P a) (by omega) (by omega) (by omega)
 have := b4.le hT
 exact ⟨b1, by unfold domL; omega, b3, .up a0 (by omega) b4, b5, b6⟩
theorem Domain_l0 {z : Int} (z0 : 0 ≤ z) (z1 : z < K.length) : ∀ (f : Nat) (x : Int), -1 ≤ x → x < K.length → x < f → Ev (fun k => shape_Domain.l0 k z x K P) (domS K P z f x) := by
 have hT := hO.tree
 have hn := hO.1
 intro f
 induction f with
 | zero =>
  intro x x0 x1 x2
  refine Ev.step (fun k => shape_Domain.l0.eq_2 ..) ?_
  rw [domS]
  obtain rfl : x = -1 := by omega
  exact Ev.pos rfl (Ev.now _)
 | succ f ih =>
  intro x x0 x1 x2
  refine Ev.step (fun k => shape_Domain.l0.eq_2 ..) ?_
  rw [domS]
  by_cases e : x = -1
  ·subst e
   exact Ev.pos rfl (Ev.now _)
  ·rw [if_neg e]
   have hp := hT.rdP (a := x) (by omega) (by omega)
   have nxt := ih (rd P x) (by omega) (by omega) (by omega)
   refine Ev.neg e (Ev.pos (by omega) (Ev.pos x1 ?_))
   by_cases c1 : rd K x = 1
   ·refine Ev.pos c1 ?_
    by_cases c2 : x = z
    ·rw [if_neg (fun h => h.2.1 c2)]
     exact Ev.pos c2 (Ev.pos (by omega) nxt)
    ·refine Ev.neg c2 (Ev.bd (Under_f hn hT z0 z1 x0 x1) ?_)
     by_cases u : unB P z x = true
     ·rw [if_pos ⟨c1, c2, u⟩]
      exact Ev.pos u (Ev.now _)
     ·rw [if_neg (fun h => u h.2.2)]
      exact Ev.neg u (Ev.pos (by omega) nxt)
   ·rw [if_neg (fun h => c1 h.1)]
    exact Ev.neg c1 (Ev.pos (by omega) nxt)
theorem Domain_f {a z : Int} (a0 : 0 ≤ a) (a1 : a < K.length) (z0 : 0 ≤ z) (z1 : z < K.length) : Ev (fun k => shape_Domain.f k K P a z) (domL K P a z) := by
 have hn := hO.1
 have hp := hO.tree.rdP a0 (by omega)
 have h := Domain_l0 hO z0 z1 (K.length + 1) (rd P a) (by omega) (by omega) (by omega)
 unfold shape_Domain.f shape_Shape_is.f
 refine Ev.cg (f := fun k => shape_Domain.j0 k a z false K P) ?_ (fun k => ?_)
 ·refine Ev.step (fun k => shape_Domain.j0.eq_2 ..) ?_
  exact Ev.neg (by simp) (Ev.pos a0 (Ev.pos (by omega) h))
 ·rw [if_pos (by omega), if_pos (by omega), Option.bind_some, Option.bind_some, if_pos (by simpa using a1), decide_eq_true z1]; rfl
end
end Go.Proofs.Ytnomeokicfpidaa.M
namespace Go.Proofs.Ytnomeokicfpidaa.M
open Go.RowKit Go.Proofs.YtnomeokicfpidaaW.PrintWords Go.Proofs.YtnomeokicfpidaaW.PrintLast Go.Proofs.YtnomeokicfpidaaW.PrintMore Go.Proofs.Ytnomeokicfpidaa.Q
set_option linter.unusedVariables false
theorem of_l2 (l : List Int) (hl : l.length < 17592186044416) (P : List Int) : ∀ (d i : Nat) (K : List Int), i + d = K.length → Inv2 K P i → K.length = max 1 (min l.length 12) →
  Ex (fun k => imprimaturlaw06_Of.l2 k K P (P.length : Int) (i : Int)) (OfPost l) := by
 intro d
 induction d with
 | zero =>
  intro i K hi h hn
  refine ⟨(K, P, K, P), Ev.ret (fun k => ?_), h.done (by omega), rfl, rfl, hn⟩
  have := h.1
  simp only [imprimaturlaw06_Of.l2]
  rw [if_neg (by omega)]
  exact copy2 K P (by omega) (by omega)
 | succ d ih =>
  intro i K hi h hn
  have hP := h.1
  by_cases hc : P.getD i 0 = 0 ∧ 3 ≤ K.getD i 0
  ·have ih' := ih (i + 1) (K.set i 1) (by rw [List.length_set]; omega) (h.turn (by omega) hc.1 hc.2) (by rw [List.length_set]; exact hn)
   refine Ex.st ih' (fun k => ?_)
   simp only [imprimaturlaw06_Of.l2]
   rw [if_pos (by omega), if_pos (by omega), if_pos (by omega), rd_nat, if_pos hc.1, if_pos (by omega), rd_nat, if_pos (show K.getD i 0 ≥ 3 from hc.2), w1 i (by omega), Int.toNat_natCast]
  ·refine Ex.st (ih (i + 1) K (by omega) (h.keep hc) hn) (fun k => ?_)
   simp only [imprimaturlaw06_Of.l2]
   rw [if_pos (by omega), if_pos (by omega), if_pos (by omega), rd_nat, rd_nat, w1 i (by omega)]
   by_cases h0 : P.getD i 0 = 0
   ·rw [if_pos h0, if_pos (by omega), if_neg (fun h3 => hc ⟨h0, h3⟩)]
   ·rw [if_neg h0]
theorem of_j7 (l : List Int) (hl : l.length < 17592186044416) (K P : List Int) (h : Inv K P) (hn : K.length = max 1 (min l.length 12)) (b : Bool) :
  Ex (fun k => imprimaturlaw06_Of.j7 k K P b) (OfPost l) := by
 have h1 := h.2.1
 have hP := h.1
 cases b with
 | true =>
  refine Ex.st (of_l2 l hl P (K.set 0 2).length 0 (K.set 0 2) (by omega) (Inv2.start h) (by rw [List.length_set]; exact hn)) (fun k => ?_)
  simp only [imprimaturlaw06_Of.j7]
  rw [if_pos trivial, if_pos (by omega)]; rfl
 | false =>
  refine ⟨(K, P, K, P), Ev.ret (fun k => ?_), h, rfl, rfl, hn⟩
  simp only [imprimaturlaw06_Of.j7]
  rw [if_neg (by simp)]
  exact copy2 K P (by omega) (by omega)
theorem of_fin (l : List Int) (hl : l.length < 17592186044416) (K P : List Int) (h : Inv K P) (hn : K.length = max 1 (min l.length 12)) (i : Int) :
  Ex (fun k => imprimaturlaw06_Of.j1 k l K P i false) (OfPost l) := by
 by_cases h0 : (l.length : Int) > 0
 ·refine Ex.st (of_j7 l hl K P h hn ((Int.tmod (rd l 0) 3) == 0)) (fun k => ?_)
  simp only [imprimaturlaw06_Of.j1]
  rw [if_neg (by simp), if_pos h0, if_pos (by omega)]
 ·refine Ex.st (of_j7 l hl K P h hn false) (fun k => ?_)
  simp only [imprimaturlaw06_Of.j1]
  rw [if_neg (by simp), if_neg h0]
def Next (l : List Int) (i : Nat) : Prop := ∀ K P : List Int, Inv K P → K.length = i + 1 → Ex (fun k => imprimaturlaw06_Of.l0 k l K P ((i + 1 : Nat) : Int)) (OfPost l)
theorem of_l1 (l : List Int) (i : Nat) (hi1 : i < l.length) (hi : i < 12) (K P : List Int) (h : Inv K P) (hn : K.length = i) (p : Int) (hp0 : -1 ≤ p) (hp1 : p < K.length) (hp : p = -1 ∨ solidB (rd K p) = true) (next : Next l i) :
  ∀ (d j : Nat) (x : Int), j + d = P.length → 1 ≤ x → x ≤ 4 → (3 ≤ x → p ≠ -1 ∧ rd K p = 1 ∧ ∃ m, m < K.length ∧ P.getD m 0 = p ∧ solidB (K.getD m 0) = true) →
   Ex (fun k => imprimaturlaw06_Of.l1 k l K P (i : Int) p x (P.length : Int) (j : Int)) (OfPost l) := by
 have hP := h.1
 intro d
 induction d with
 | zero =>
  intro j x hj hx1 hx4 hx
  refine Ex.st (next (K ++ [x]) (P ++ [p]) (h.app hx1 hx4 hp0 hp1 hp hx) (by simp; omega)) (fun k => ?_)
  simp only [imprimaturlaw06_Of.l1]
  rw [if_neg (by omega), if_pos (by omega), if_pos (by omega), w1 i (by omega)]
 | succ d ih =>
  intro j x hj hx1 hx4 hx
  have same := ih (j + 1) x (by omega) hx1 hx4 hx
  have hw := w1 j (by omega)
  by_cases c1 : P.getD j 0 = p
  ·by_cases c2 : K.getD j 0 ≤ 2
   ·by_cases c3 : p ≥ 0
    ·by_cases c4 : rd K p = 1
     ·have hv := Int.emod_nonneg (wrap64 (Int.tdiv (rd l (i : Int)) 96)) (show (2 : Int) ≠ 0 by omega)
      have hv' := Int.emod_lt_of_pos (wrap64 (Int.tdiv (rd l (i : Int)) 96)) (show (0 : Int) < 2 by omega)
      obtain ⟨v, hev⟩ : ∃ v, wrap64 (Int.tdiv (rd l (i : Int)) 96) % 2 = v := ⟨_, rfl⟩
      rw [hev] at hv hv'
      obtain ⟨a1, _⟩ := okS_iff.1 (h.2.2.1 j (by omega))
      refine Ex.st (ih (j + 1) (3 + v) (by omega) (by omega) (by omega) (fun _ => ⟨by omega, c4, j, by omega, c1, solidB_iff.2 (by omega)⟩)) (fun k => ?_)
      simp only [imprimaturlaw06_Of.l1]
      rw [if_pos (by omega), if_pos (by omega), if_pos (by omega), rd_nat, if_pos c1, if_pos (by omega), rd_nat, if_pos c2, if_pos c3, if_pos c3, if_pos (by omega), if_pos c4, if_pos (by omega), if_pos (by omega), within_f _ _ (by omega) (by omega), Option.bind_some, hev, w64 (x := 3 + v) (by omega) (by omega), hw]
     ·refine Ex.st same (fun k => ?_)
      simp only [imprimaturlaw06_Of.l1]
      rw [if_pos (by omega), if_pos (by omega), if_pos (by omega), rd_nat, if_pos c1, if_pos (by omega), rd_nat, if_pos c2, if_pos c3, if_pos c3, if_pos (by omega), if_neg c4, hw]
    ·refine Ex.st same (fun k => ?_)
     simp only [imprimaturlaw06_Of.l1]
     rw [if_pos (by omega), if_pos (by omega), if_pos (by omega), rd_nat, if_pos c1, if_pos (by omega), rd_nat, if_pos c2, if_neg c3, hw]
   ·refine Ex.st same (fun k => ?_)
    simp only [imprimaturlaw06_Of.l1]
    rw [if_pos (by omega), if_pos (by omega), if_pos (by omega), rd_nat, if_pos c1, if_pos (by omega), rd_nat, if_neg c2, hw]
  ·refine Ex.st same (fun k => ?_)
   simp only [imprimaturlaw06_Of.l1]
   rw [if_pos (by omega), if_pos (by omega), if_pos (by omega), rd_nat, if_neg c1, hw]
theorem of_j3 (l : List Int) (i : Nat) (hi1 : i < l.length) (hi : i < 12) (K P : List Int) (h : Inv K P) (hn : K.length = i) (p : Int) (hp0 : -1 ≤ p) (hp1 : p < K.length) (hp : p = -1 ∨ solidB (rd K p) = true) (next : Next l i) :
  Ex (fun k => imprimaturlaw06_Of.j3 k l K P (i : Int) p) (OfPost l) := by
 have hP := h.1
 have hw := w1 i (by omega)
 obtain ⟨t, ht⟩ : ∃ t, wrap64 (Int.tdiv (rd l (i : Int)) 16) % 6 = t := ⟨_, rfl⟩
 have j5 : ∀ b : Bool, Ex (fun k => imprimaturlaw06_Of.j5 k l K P (i : Int) p 1 b) (OfPost l) := by
  intro b
  cases b with
  | true =>
   refine Ex.st (of_l1 l i hi1 hi K P h hn p hp0 hp1 hp next P.length 0 1 (by omega) (by omega) (by omega) (fun h => by omega)) (fun k => ?_)
   simp only [imprimaturlaw06_Of.j5]
   rw [if_pos trivial]; rfl
  | false =>
   refine Ex.st (next (K ++ [1]) (P ++ [p]) (h.app (by omega) (by omega) hp0 hp1 hp (fun h => by omega)) (by simp; omega)) (fun k => ?_)
   simp only [imprimaturlaw06_Of.j5]
   rw [if_neg (by simp), if_pos (by omega), if_pos (by omega), hw]
 have j4 : ∀ b : Bool, Ex (fun k => imprimaturlaw06_Of.j4 k l K P (i : Int) p 1 t b) (OfPost l) := by
  intro b
  cases b with
  | true =>
   refine Ex.st (next (K ++ [2]) (P ++ [p]) (h.app (by omega) (by omega) hp0 hp1 hp (fun h => by omega)) (by simp; omega)) (fun k => ?_)
   simp only [imprimaturlaw06_Of.j4]
   rw [if_pos trivial, if_pos (by omega), if_pos (by omega), hw]
  | false =>
   by_cases h2 : t = 2
   ·refine Ex.st (j5 (t == 2)) (fun k => ?_)
    simp only [imprimaturlaw06_Of.j4]
    rw [if_neg (by simp), if_pos h2]
   ·refine Ex.st (j5 (t == 3)) (fun k => ?_)
    simp only [imprimaturlaw06_Of.j4]
    rw [if_neg (by simp), if_neg h2]
 by_cases h0 : t = 0
 ·refine Ex.st (j4 (t == 0)) (fun k => ?_)
  simp only [imprimaturlaw06_Of.j3]
  rw [if_pos (by omega), if_pos (by omega), within_f _ _ (by omega) (by omega), Option.bind_some, ht, if_pos h0]
 ·refine Ex.st (j4 (t == 1)) (fun k => ?_)
  simp only [imprimaturlaw06_Of.j3]
  rw [if_pos (by omega), if_pos (by omega), within_f _ _ (by omega) (by omega), Option.bind_some, ht, if_neg h0]
theorem of_l0 (l : List Int) (hl : l.length < 17592186044416) : ∀ (d i : Nat) (K P : List Int), Inv K P → K.length = i → i ≤ max 1 (min l.length 12) → i + d = max 1 (min l.length 12) →
  Ex (fun k => imprimaturlaw06_Of.l0 k l K P (i : Int)) (OfPost l) := by
 intro d
 induction d with
 | zero =>
  intro i K P h hn hi hd
  refine Ex.st (of_fin l hl K P h (by omega) (i : Int)) (fun k => ?_)
  simp only [imprimaturlaw06_Of.l0]
  by_cases hlt : (i : Int) < (l.length : Int)
  ·rw [if_pos hlt, decide_eq_false (by omega)]
  ·rw [if_neg hlt]
 | succ d ih =>
  intro i K P h hn hi hd
  have h1 := h.2.1
  have next : Next l i := fun K' P' h' hn' => ih (i + 1) K' P' h' hn' (by omega) (by omega)
  obtain ⟨v, hv⟩ : ∃ v, rd l (i : Int) % ((i + 1 : Nat) : Int) = v := ⟨_, rfl⟩
  have hv0 := Int.emod_nonneg (rd l (i : Int)) (show ((i + 1 : Nat) : Int) ≠ 0 by omega)
  have hv1 := Int.emod_lt_of_pos (rd l (i : Int)) (show 0 < ((i + 1 : Nat) : Int) by omega)
  rw [hv] at hv0 hv1
  have hwv : wrap64 (v - 1) = v - 1 := w64 (by omega) (by omega)
  have j2 : ∀ b : Bool, (b = false → v - 1 = -1 ∨ solidB (rd K (v - 1)) = true) → Ex (fun k => imprimaturlaw06_Of.j2 k l K P (i : Int) (v - 1) b) (OfPost l) := by
   intro b hb
   cases b with
   | true =>
    refine Ex.st (of_j3 l i (by omega) (by omega) K P h hn (-1) (by omega) (by omega) (.inl rfl) next) (fun k => ?_)
    simp only [imprimaturlaw06_Of.j2]
    rw [if_pos trivial]
   | false =>
    refine Ex.st (of_j3 l i (by omega) (by omega) K P h hn (v - 1) (by omega) (by omega) (hb rfl) next) (fun k => ?_)
    simp only [imprimaturlaw06_Of.j2]
    rw [if_neg (by simp)]
  have j1 : Ex (fun k => imprimaturlaw06_Of.j1 k l K P (i : Int) true) (OfPost l) := by
   by_cases hc : v - 1 ≥ 0
   ·refine Ex.st (j2 (decide (rd K (v - 1) ≥ 3)) (fun hb => ?_)) (fun k => ?_)
    ·have h3 := of_decide_eq_false hb
     right
     obtain ⟨a, _⟩ := okS_iff.1 (h.2.2.1 (v - 1).toNat (by omega))
     exact solidB_iff.2 (by unfold rd at h3 ⊢; omega)
    ·simp only [imprimaturlaw06_Of.j1]
     rw [if_pos trivial, if_pos (by omega), if_pos (by omega), w1 i (by omega), within_f _ _ (by omega) (by omega), Option.bind_some, hv, hwv, if_pos hc, if_pos hc, if_pos (by omega)]
   ·refine Ex.st (j2 false (fun _ => .inl (by omega))) (fun k => ?_)
    simp only [imprimaturlaw06_Of.j1]
    rw [if_pos trivial, if_pos (by omega), if_pos (by omega), w1 i (by omega), within_f _ _ (by omega) (by omega), Option.bind_some, hv, hwv, if_neg hc]
  refine Ex.st j1 (fun k => ?_)
  simp only [imprimaturlaw06_Of.l0]
  rw [if_pos (by omega), decide_eq_true (by omega)]
theorem Inv.one : Inv [1] [-1] := by
 refine ⟨rfl, by simp, fun i hi => ?_, fun i hi h3 => ?_, rfl, rfl⟩
 ·obtain rfl : i = 0 := by simp at hi; exact hi
  decide
 ·obtain rfl : i = 0 := by simp at hi; exact hi
  simp at h3
theorem of_f (l : List Int) (hl : l.length < 17592186044416) : Ex (fun k => imprimaturlaw06_Of.f k l) (OfPost l) := by
 unfold imprimaturlaw06_Of.f
 exact of_l0 l hl (max 1 (min l.length 12) - 1) 1 [1] [-1] Inv.one rfl (by omega) (by omega)
end Go.Proofs.Ytnomeokicfpidaa.M
namespace Go.Proofs.Ytnomeokicfpidaa.Pure
open Go.RowKit Go.Proofs.YtnomeokicfpidaaW.PrintWords Go.Proofs.YtnomeokicfpidaaW.PrintLast Go.Proofs.YtnomeokicfpidaaW.PrintMore Go.Proofs.Ytnomeokicfpidaa.Q Go.Proofs.Ytnomeokicfpidaa.M Go.Proofs.Ytnomeokicfpidaa.EW
set_option linter.unusedVariables false
theorem path_solid {K P : List Int} (hO : Ok K P) (Q Q' : List Int) {z : Int} (z0 : 0 ≤ z) (z1 : z < K.length) (hz : solidB (rd K z) = true) : ∀ (f : Nat) (a : Int), 0 ≤ a → a < K.length → (K.length : Int) - a ≤ f → pathR K P Q z f a = pathR K P Q' z f a := by
 intro f
 induction f with
 | zero => intro a h0 h1 h2; omega
 | succ f ih =>
  intro a h0 h1 h2
  rw [pathR, pathR]
  by_cases e : a = z
  ·rw [if_pos e, if_pos e, inA_solid z0 z1 hz, inA_solid z0 z1 hz]
  ·rw [if_neg e, if_neg e]
   congr 1
   congr 1
   ·refine flatMap_same (fun k hk => ?_)
    obtain ⟨k0, k1, k2, _⟩ := hO.kid hk
    rw [ih k k0 k1 (by omega)]
   ·refine flatMap_same (fun k hk => ?_)
    obtain ⟨k0, k1, k2, _, _, kc⟩ := hO.kid hk
    by_cases c : rd K a = 2 ∧ unB P z k = false
    ·have hs := (kc (by omega)).2.resolve_right (by omega)
     rw [if_pos c, if_pos c, inA_solid k0 k1 hs, inA_solid k0 k1 hs]
    ·rw [if_neg c, if_neg c]
theorem enter_solid {K P : List Int} (hO : Ok K P) (Q Q' : List Int) {d z : Int} (z0 : 0 ≤ z) (z1 : z < K.length) (hz : solidB (rd K z) = true) : enterL K P Q d z = enterL K P Q' d z := by
 unfold enterL
 refine flatMap_same (fun k hk => ?_)
 obtain ⟨k0, k1, k2, _⟩ := hO.kid hk
 rw [path_solid hO Q Q' z0 z1 hz K.length k k0 k1 (by omega)]
theorem BL.len {K P : List Int} {a : Int} {R : List Int} (h : BL K P a R) : R.length ≤ K.length + 1 := pigeon h.nd (fun x hx => by have := h.el x hx; omega)
section
variable {K P : List Int} (hO : Ok K P) (c : Nat) (hc : c < 4294967296)
include hO hc
theorem self_l0 (d : Int) (d0 : -1 ≤ d) (d1 : d < K.length) (x y : Nat) (hx : x < 4294967296) (hy : y < 4294967296) (hin : ∀ j : Nat, x.testBit j = true ∨ y.testBit j = true → (j : Int) ≠ d ∧ Un P (j : Int) d)
  (hyc : ∀ j : Nat, y.testBit j = true → c.testBit j = true) (hfin : ∀ j : Nat, c.testBit j = true → j < K.length) :
  ∀ (e i : Nat), i + e = K.length → Ev (fun k => imprimaturlaw07_EnterSelf.l0 k (c : Int) d (x : Int) (y : Int) (K.length : Int) (i : Int) K P) true := by
 have hn := hO.1
 have hT := hO.tree
 have h24 := hO.2.2.2.2
 have hxy : x ||| y < 4294967296 := Nat.or_lt_two_pow (n := 32) hx hy
 intro e
 induction e with
 | zero =>
  intro i hi
  refine Ev.step (fun k => imprimaturlaw07_EnterSelf.l0.eq_2 ..) ?_
  have e1 : (y : Int) = Go.bits .and .u32 (y : Int) (c : Int) := by
   rw [M.u32_and y c hy hc]
   congr 1
   refine Nat.eq_of_testBit_eq (fun j => ?_)
   rw [Nat.testBit_and, Bool.eq_iff_iff, Bool.and_eq_true]
   exact ⟨fun h => ⟨h, hyc j h⟩, fun h => h.1⟩
  have hbl := below_len K P (c : Int) (-1)
  have hr : ∀ x ∈ (belowL K P (c : Int) (-1)).reverse, 0 ≤ x ∧ x < 32 := fun x hx => by
   obtain ⟨j, rfl, hj, _⟩ := mem_below.1 (List.mem_reverse.1 hx); omega
  have e2 : ((bs (belowL K P (c : Int) (-1)).reverse 0 : Nat) : Int) = (c : Int) := by
   congr 1
   refine Nat.eq_of_testBit_eq (fun j => ?_)
   rw [Bool.eq_iff_iff, tb_bs (fun x hx => (hr x hx).1), Nat.zero_testBit, List.mem_reverse, mem_belowN hO hc]
   simp only [Bool.false_eq_true, false_or]
   constructor
   ·rintro ⟨j', e, _, _, h, _⟩
    obtain rfl : j = j' := by omega
    exact h
   ·intro h
    have hj := hfin j h
    exact ⟨j, rfl, hj, by omega, h, Un.top hT (j + 1) (j : Int) (by omega) (by omega) (by omega)⟩
  refine Ev.neg (by omega) (Ev.pos e1 (Ev.bd (Leave_f hO (c : Int) (-1) (by omega) (by omega)) (Ev.bd (bits_f _ (by rw [List.length_reverse]; omega) hr) ?_)))
  exact Ev.pos e2 (Ev.bd wakes7_f (Ev.now _))
 | succ e ih =>
  intro i hi
  have nxt := ih (i + 1) (by omega)
  refine Ev.step (fun k => imprimaturlaw07_EnterSelf.l0.eq_2 ..) ?_
  rw [w1 i (by omega), u64w i (by omega), M.u32_or x y hx hy, bit1 _ i hxy]
  have off : ¬ ((i : Int) ≠ d ∧ Un P (i : Int) d) → ¬ (if (x ||| y).testBit i = true then (1 : Int) else 0) = 1 := fun h => by
   rw [if_neg (fun hb => h (hin i (by rw [Nat.testBit_or, Bool.or_eq_true] at hb; exact hb)))]; simp
  refine Ev.pos (by omega) ?_
  by_cases e1 : (i : Int) = d
  ·exact Ev.pos e1 (Ev.pos (by omega) (Ev.neg (off (fun h => h.1 e1)) nxt))
  ·refine Ev.neg e1 (Ev.bd (Under_f hn hT (by omega) (by omega) d0 d1) ?_)
   by_cases u : unB P (i : Int) d = true
   ·exact Ev.pos u nxt
   ·exact Ev.neg u (Ev.pos (by omega) (Ev.neg (off (fun h => u ((unB_iff hT (by omega) (by omega)).2 h.2))) nxt))
end
theorem EnterSelf (l0 l1 : List Int) (a2 a3 : Int) (l4 : List (List Int)) (_ : l0.length ≤ maxLen) (hl0 : l0.length * 8 ≤ 140737488351232) (_ : ∀ x ∈ l0, (Lit.int .i64 x).wf = true) (_ : l1.length ≤ maxLen) (_ : l1.length * 8 ≤ 140737488351232) (_ : ∀ x ∈ l1, (Lit.int .i64 x).wf = true) (_ : (Lit.int .i64 a2).wf = true) (_ : (Lit.int .i64 a3).wf = true) (_ : l4.length ≤ maxLen) (_ : ∀ z ∈ l4, z.length ≤ maxLen ∧ ∀ n ∈ z, (Lit.int .i64 n).wf = true) : ∃ k, Q.imprimaturlaw07_EnterSelf.f k l0 l1 a2 a3 l4 = some true := by
 refine Ev.rounds (r := true) ?_
 unfold imprimaturlaw07_EnterSelf.f
 obtain ⟨⟨K, P, K', P'⟩, hE, hI, e1, e2, hlen⟩ := of_f l0 (by omega)
 simp only at hI hlen e1 e2
 subst e1 e2
 refine Ev.bd hE ?_
 simp only
 have hn := hI.1
 have h12 : K'.length ≤ 12 := by omega
 have h1 := hI.2.1
 have hO := hI.ok (by omega)
 obtain ⟨_, hc, c, rfl, hcl, hLP⟩ := config_f hI (by omega) l1
 have h32 : (2 : Nat) ^ K'.length ≤ 2 ^ 12 := Nat.pow_le_pow_right (by decide) h12
 have h32' : (2 : Nat) ^ K'.length ≤ 4096 := h32
 clear h32
 refine Ev.bd hc ?_
 rw [within_f a2 _ (by omega) (by omega), within_f a3 _ (by omega) (by omega)]
 have m0 := Int.emod_nonneg a2 (show (K'.length : Int) ≠ 0 by omega)
 have m1 := Int.emod_lt_of_pos a2 (show 0 < (K'.length : Int) by omega)
 generalize a2 % (K'.length : Int) = a at m0 m1
 have z0 := Int.emod_nonneg a3 (show (K'.length : Int) ≠ 0 by omega)
 have z1 := Int.emod_lt_of_pos a3 (show 0 < (K'.length : Int) by omega)
 generalize a3 % (K'.length : Int) = z at z0 z1
 obtain ⟨d0, d1, d2, d3, d4, d5⟩ := domL_spec hO m0 m1 z0 z1
 have hD := Domain_f hO m0 m1 z0 z1
 generalize domL K' P' a z = d at d0 d1 d2 d3 d4 d5 hD
 refine Ev.som (Ev.som (Ev.bd hD (Ev.pos z0 (Ev.pos z1 ?_))))
 obtain ⟨p, hp, hPQ⟩ := past_f hI (by omega) l4
 have hQ := hPQ.ok hO
 obtain ⟨hB, _⟩ := enter_BL hO hQ z0 z1 d2 d4 d5
 obtain ⟨hB0, _⟩ := enter_BL hO ((PQ.nil K' P').ok hO) z0 z1 d2 d4 d5
 have hl := BL.len hB
 have hl0' := BL.len hB0
 have hE1 : enter_Enter.f K' P' d z p = some (enterL K' P' p d z) := by
  unfold enter_Enter.f
  rw [if_pos ⟨hI.valid (by omega), z0, z1, by omega⟩]
 have hE0 : enter_Enter.f K' P' d z ([] : List Int) = some (enterL K' P' [] d z) := by
  unfold enter_Enter.f
  rw [if_pos ⟨hI.valid (by omega), z0, z1, by omega⟩]
 have h32 : ∀ x ∈ enterL K' P' p d z, 0 ≤ x ∧ x < 32 := fun x hx => by have := hB.el x hx; omega
 have hbl := below_len K' P' (c : Int) d
 have hlr : ∀ x ∈ (belowL K' P' (c : Int) d).reverse, 0 ≤ x ∧ x < 32 := fun x hx => by
  obtain ⟨j, rfl, hj, _⟩ := mem_below.1 (List.mem_reverse.1 hx); omega
 have tail : Ev (fun k => imprimaturlaw07_EnterSelf.j0 k z l4 (c : Int) d false K' P' K' P') true := by
  refine Ev.step (fun k => imprimaturlaw07_EnterSelf.j0.eq_2 ..) ?_
  refine Ev.neg (by simp) (Ev.bd hp ?_)
  rw [hE1]
  refine Ev.som (Ev.bd (bits_f _ (by omega) h32) (Ev.bd (Leave_f hO (c : Int) d d0 (by omega)) (Ev.bd (bits_f _ (by rw [List.length_reverse]; omega) hlr) ?_)))
  refine self_l0 hO c (by omega) d d0 (by omega) _ _ (bs_lt h32) (bs_lt hlr) (fun j hj => ?_) (fun j hj => ?_) (fun j hj => (hLP.mem j hj).1) K'.length 0 (by omega)
  ·rcases hj with hj | hj
   ·have := (tb_bs (fun x hx => (h32 x hx).1)).1 hj
    simp only [Nat.zero_testBit, Bool.false_eq_true, false_or] at this
    have := hB.el _ this
    exact ⟨this.2.2.2.2, this.2.2.2.1⟩
   ·have := (tb_bs (fun x hx => (hlr x hx).1)).1 hj
    simp only [Nat.zero_testBit, Bool.false_eq_true, false_or, List.mem_reverse] at this
    obtain ⟨j', e, _, h3, _, h5⟩ := (mem_belowN hO (by omega)).1 this
    obtain rfl : j = j' := by omega
    exact ⟨h3, h5⟩
  ·have := (tb_bs (fun x hx => (hlr x hx).1)).1 hj
   simp only [Nat.zero_testBit, Bool.false_eq_true, false_or, List.mem_reverse] at this
   obtain ⟨j', e, _, _, h4, _⟩ := (mem_belowN hO (by omega)).1 this
   obtain rfl : j = j' := by omega
   exact h4
 by_cases hs : rd K' z < 3
 ·refine Ev.pos hs (Ev.bd hp ?_)
  rw [hE1, hE0, enter_solid hO p [] z0 z1 ((solid_of hO z0 z1).2 hs)]
  refine Ev.som (Ev.som (Ev.bd (same_f _ (by omega)) ?_))
  exact tail
 ·exact Ev.neg hs tail
end Go.Proofs.Ytnomeokicfpidaa.Pure
namespace Go.Proofs.YtnomeokicfpidaaW.PrintWords
open Go.RowKit Go.ChangeShapes Go.WideShapes Go.Deep
set_option linter.unusedVariables false
theorem getD_map_range {α : Type} (f : Nat → α) (d : α) {n j : Nat} (h : j < n) : ((List.range n).map f)[j]? = some (f j) := by
 rw [List.getElem?_map, List.getElem?_range h]; rfl
theorem open_rows_C {H : Type} {enc : TypeId × Value → H} {P : Program} {w : World} {base : Nat} {held : Bool} {t e q : TypeId} {k : IntKind} {fuel : Nat} {A : Option Addr} {len cap : Nat} {x : DataW H × List MemPlace}
  (ht : P.underlying t = some (.slice e)) (he : P.underlying e = some (.slice q)) (hq : P.underlying q = some (.int k))
  (ce : P.cellsOf e = 1) (cq : P.cellsOf q = 1) (h : DataW.trod enc P w base (fun _ => true) held fuel t (Value.slice A len cap).cells.toList = some x) :
  ∃ l : List (List Int), len = l.length ∧ l.length ≤ cap ∧ l.length ≤ maxLen ∧ Kd.C (Kd.slice q (Kd.int k)) w A l.length l ∧ (∀ z ∈ l, z.length ≤ maxLen ∧ ∀ n ∈ z, (Lit.int k n).wf = true) := by
 rcases open_int_rows ht he hq ce cq h with ⟨hcs, _⟩ | ⟨a, len', cap', B, L, C, Z, hcs, _, hl, hm, _, hr⟩
 ·simp [Value.cells] at hcs
  obtain ⟨rfl, rfl, rfl⟩ := hcs
  exact ⟨[], rfl, by simp, by simp [maxLen], ⟨rfl, by simp, fun h => by simp at h⟩, by simp⟩
 ·simp [Value.cells] at hcs
  obtain ⟨rfl, rfl, rfl⟩ := hcs
  have hlen : ((List.range len).map (fun r => (Z r).take (L r))).length = len := by simp
  refine ⟨(List.range len).map (fun r => (Z r).take (L r)), hlen.symm, by rw [hlen]; exact hl, by rw [hlen]; omega, ?_, ?_⟩
  ·rw [hlen]
   refine ⟨hlen, by unfold maxLen at hm; omega, fun _ => ⟨a, rfl, fun j p hj => ?_⟩⟩
   have hjl : j < len := by
    have := (List.getElem?_eq_some_iff.1 hj).1
    rwa [hlen] at this
   rw [getD_map_range _ ([] : List Int) hjl] at hj
   obtain rfl := Option.some.inj hj
   obtain ⟨h1, h2, h3, h4, h5, h6, h7⟩ := hr j (by omega)
   have hzl : ((Z j).take (L j)).length = L j := by rw [List.length_take]; omega
   refine ⟨[.slice (B j) (L j) (C j)], rfl, ⟨B j, C j, by rw [hzl], by omega, ?_⟩, fun i u hu => ?_⟩
   ·rw [hzl]
    refine ⟨hzl, by unfold maxLen at h3; omega, fun hpos => ?_⟩
    cases hB : B j with
    | none => have := h6 hB; omega
    | some b =>
     refine ⟨b, rfl, fun i p hi => ?_⟩
     have hil : i < L j := by
      have := (List.getElem?_eq_some_iff.1 hi).1
      rwa [hzl] at this
     refine ⟨[.int k p], rfl, rfl, fun i' u hu => ?_⟩
     have hc := (h7 b hB).2 i (by omega)
     rw [List.getElem?_take, if_pos hil] at hi
     rw [List.getD_eq_getElem?_getD, hi] at hc
     cases i' with
     | zero =>
      have : u = .int k p := (Option.some.inj hu).symm
      rw [this, Nat.add_zero, show i * (Kd.int k).sz = i from Nat.mul_one i]; exact hc
     | succ i' => simp at hu
   ·cases i with
    | zero =>
     have : u = .slice (B j) (L j) (C j) := (Option.some.inj hu).symm
     rw [this, Nat.add_zero, show j * (Kd.slice q (Kd.int k)).sz = j from Nat.mul_one j]; exact h1
    | succ i => simp at hu
  ·intro z hz
   obtain ⟨j, hj, rfl⟩ := List.mem_map.1 hz
   rw [List.mem_range] at hj
   obtain ⟨h1, h2, h3, h4, h5, h6, h7⟩ := hr j (by omega)
   exact ⟨by rw [List.length_take]; omega, fun n hn => h5 n (List.mem_of_mem_take hn)⟩
end Go.Proofs.YtnomeokicfpidaaW.PrintWords
