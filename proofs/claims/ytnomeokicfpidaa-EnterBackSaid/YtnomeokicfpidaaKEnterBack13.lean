-- merged and slimmed by slim.py (a program of this repo)
import Derived.Test.YtnomeokicfpidaaKEnterBack12
import Derived.Test.YtnomeokicfpidaaKEnterBack0
import Derived.Test.YtnomeokicfpidaaKEnterBack2
import Derived.Test.YtnomeokicfpidaaKEnterBack3
import Derived.Test.YtnomeokicfpidaaKEnterBack5
import Derived.Test.YtnomeokicfpidaaKEnterBack7
import Derived.Test.YtnomeokicfpidaaKEnterBack6
import Derived.Test.YtnomeokicfpidaaKEnterBack4
import Derived.Test.YtnomeokicfpidaaKEnterBack8
import Derived.Test.YtnomeokicfpidaaKEnterBack1
namespace Go.Proofs.Ytnomeokicfpidaa.M
open Go.RowKit Go.Proofs.YtnomeokicfpidaaW.PrintWords Go.Proofs.YtnomeokicfpidaaW.PrintLast Go.Proofs.YtnomeokicfpidaaW.PrintMore Go.Proofs.Ytnomeokicfpidaa.Q
set_option linter.unusedVariables false
theorem rd_mid (pre : List Int) (x : Int) (rest : List Int) : rd (pre ++ x :: rest) (pre.length : Int) = x := by
 rw [rd_nat]; simp [List.getD_eq_getElem?_getD]
section
variable {K P : List Int} {ls : List Int} {Q : Int → Prop}
theorem cfg_l2 (T L : List Int) (x6 : Int) (hT : T.length + L.length < 1000) (hL : ∀ x ∈ L, 0 ≤ x ∧ x < 32) : ∀ (rest pre : List Int) (s : Nat), L = pre ++ rest → s < 4294967296 →
  Ex (fun k => imprimaturlaw06_Config.l0 k ls ((bs rest s : Nat) : Int) x6 (T ++ L) K P) Q →
  Ex (fun k => imprimaturlaw06_Config.l2 k ls (s : Int) x6 T L L (L.length : Int) (pre.length : Int) K P) Q := by
 intro rest
 induction rest with
 | nil =>
  intro pre s hp hs h
  refine Ex.st h (fun k => ?_)
  simp only [imprimaturlaw06_Config.l2]
  have : L.length = pre.length := by rw [hp, List.append_nil]
  rw [if_neg (by omega), if_pos (by omega)]; rfl
 | cons x rest ih =>
  intro pre s hp hs h
  have hx := hL x (by rw [hp]; simp)
  have hlen : L.length = pre.length + (rest.length + 1) := by rw [hp]; simp
  have hr : rd L (pre.length : Int) = x := by rw [hp]; exact rd_mid pre x rest
  obtain ⟨j, rfl⟩ : ∃ j : Nat, x = (j : Int) := ⟨x.toNat, by omega⟩
  have hb : s ||| 2 ^ j < 4294967296 := Nat.or_lt_two_pow (n := 32) hs (pow_lt32 (by omega))
  refine Ex.st (ih (pre ++ [(j : Int)]) (s ||| 2 ^ j) (by rw [hp]; simp) hb h) (fun k => ?_)
  simp only [imprimaturlaw06_Config.l2]
  rw [if_pos (by omega), if_pos (by omega), if_pos (by omega), hr, u64w j (by omega), if_pos (by omega), shl_one j (by omega), u32_or s (2 ^ j) hs (pow_lt32 (by omega)), w1 _ (by omega)]
  congr 1
  rw [List.length_append]; rfl
theorem cfg_j2 (hI : Inv K P) (h24 : K.length ≤ 24) (T L : List Int) (a x6 : Int) (h6 : 0 ≤ x6) (h6' : x6 < 1000) (s : Nat) (hs : s < 4294967296) (hT : T.length < 100) (hL : L = sk K P a)
  (h : ∀ (L' : List Int) (x6' : Int), (∀ x ∈ L', x ∈ sk K P a) → L'.Nodup → (sk K P a = [] ∨ (one K a = true ∧ ∃ k, L' = [k]) ∨ (one K a = false ∧ L' = sk K P a)) → 0 ≤ x6' → x6' ≤ x6 + 1 →
   Ex (fun k => imprimaturlaw06_Config.l0 k ls ((bs L' s : Nat) : Int) x6' (T ++ L') K P) Q) :
  Ex (fun k => imprimaturlaw06_Config.j2 k ls (s : Int) x6 T L (one K a && decide ((L.length : Int) > 1)) K P) Q := by
 have hn := hI.1
 have hin : ∀ x ∈ sk K P a, 0 ≤ x ∧ x < 32 := fun x hx => by
  have := kids_in hn a x (List.mem_filter.1 hx).1
  omega
 have hlen : (sk K P a).length ≤ 24 := Nat.le_trans (List.length_filter_le _ _) (Nat.le_trans (kids_len P a) (by omega))
 have hnd : (sk K P a).Nodup := List.Pairwise.filter _ (kids_nodup P a)
 subst hL
 have pick : ∀ v : Int, one K a = true → (1 : Int) < ((sk K P a).length : Int) → Ex (fun k => imprimaturlaw06_Config.j3 k ls (s : Int) (wrap64 (x6 + 1)) T (((sk K P a).take ((wrap64 (v % ((sk K P a).length : Int) + 1)) : Int).toNat).drop (v % ((sk K P a).length : Int)).toNat) K P) Q := by
  intro v ho hl
  have h0 := Int.emod_nonneg v (show ((sk K P a).length : Int) ≠ 0 by omega)
  have h1 := Int.emod_lt_of_pos v (show 0 < ((sk K P a).length : Int) by omega)
  generalize v % ((sk K P a).length : Int) = t at h0 h1
  obtain ⟨i, rfl⟩ : ∃ i : Nat, t = (i : Int) := ⟨t.toNat, by omega⟩
  have hi : i < (sk K P a).length := by omega
  rw [w1 i (by omega), Int.toNat_natCast, Int.toNat_natCast]
  have e : ((sk K P a).take (i + 1)).drop i = [(sk K P a)[i]] := by
   rw [List.take_succ_eq_append_getElem hi, List.drop_append_of_le_length (by rw [List.length_take]; omega), List.drop_eq_nil_of_le (by rw [List.length_take]; omega)]; rfl
  rw [e]
  have hm : (sk K P a)[i] ∈ sk K P a := List.getElem_mem hi
  have w6 : wrap64 (x6 + 1) = x6 + 1 := w64 (by omega) (by omega)
  rw [w6]
  refine Ex.st (cfg_l2 T [(sk K P a)[i]] (x6 + 1) (by simp only [List.length_singleton]; omega) (fun x hx => by rw [List.mem_singleton] at hx; rw [hx]; exact hin _ hm) [(sk K P a)[i]] [] s rfl hs
   (h [(sk K P a)[i]] (x6 + 1) (fun x hx => by rw [List.mem_singleton] at hx; rw [hx]; exact hm) (by simp) (.inr (.inl ⟨ho, _, rfl⟩)) (by omega) (by omega))) (fun k => ?_)
  simp only [imprimaturlaw06_Config.j3]; rfl
 by_cases hc : one K a = true ∧ ((sk K P a).length : Int) > 1
 ·rw [hc.1, Bool.true_and, decide_eq_true hc.2]
  by_cases hv : x6 < (ls.length : Int)
  ·refine Ex.st (pick (rd ls x6) hc.1 hc.2) (fun k => ?_)
   simp only [imprimaturlaw06_Config.j2]
   have h0 := Int.emod_nonneg (rd ls x6) (show ((sk K P a).length : Int) ≠ 0 by omega)
   have h1 := Int.emod_lt_of_pos (rd ls x6) (show 0 < ((sk K P a).length : Int) by omega)
   have hw : wrap64 (rd ls x6 % ((sk K P a).length : Int) + 1) = rd ls x6 % ((sk K P a).length : Int) + 1 := w64 (by omega) (by omega)
   rw [if_pos trivial, if_pos hv, if_pos h6, within_f _ _ (by omega) (by omega), Option.bind_some, hw, if_pos h0, if_pos (by omega), if_pos (by omega)]
  ·have hp0 := pick 0 hc.1 hc.2
   have hw0 : imprimaturkeep_Within.f 0 ((sk K P a).length : Int) = some (0 % ((sk K P a).length : Int)) := within_f _ _ (by omega) (by omega)
   rw [Int.zero_emod] at hp0 hw0
   refine Ex.st hp0 (fun k => ?_)
   simp only [imprimaturlaw06_Config.j2]
   have hw : wrap64 (0 + 1) = 1 := w64 (by omega) (by omega)
   rw [if_pos trivial, if_neg hv, hw0, Option.bind_some, hw, if_pos (Int.le_refl 0), if_pos (by decide), if_pos (by omega)]
 ·have hf : (one K a && decide (((sk K P a).length : Int) > 1)) = false := by
   cases ho : one K a with
   | false => rfl
   | true => rw [decide_eq_false (fun e => hc ⟨ho, e⟩)]; rfl
  rw [hf]
  have hcase : sk K P a = [] ∨ (one K a = true ∧ ∃ k, sk K P a = [k]) ∨ (one K a = false ∧ sk K P a = sk K P a) := by
   cases ho : one K a with
   | false => exact .inr (.inr ⟨rfl, rfl⟩)
   | true =>
    have hl : (sk K P a).length ≤ 1 := by
     have : ¬ ((sk K P a).length : Int) > 1 := fun e => hc ⟨ho, e⟩
     omega
    match hS : sk K P a with
    | [] => exact .inl rfl
    | [k] => exact .inr (.inl ⟨rfl, k, rfl⟩)
    | _ :: _ :: _ => rw [hS] at hl; simp at hl
  refine Ex.st (f := fun k => imprimaturlaw06_Config.j3 k ls (s : Int) x6 T (sk K P a) K P) (Ex.st (cfg_l2 T (sk K P a) x6 (by omega) hin (sk K P a) [] s rfl hs (h (sk K P a) x6 (fun x hx => hx) hnd hcase h6 (by omega))) (fun k => ?_)) (fun k => ?_)
  ·simp only [imprimaturlaw06_Config.j3]; rfl
  ·simp only [imprimaturlaw06_Config.j2]
   rw [if_neg (by simp)]
theorem cfg_l1 (hI : Inv K P) (h24 : K.length ≤ 24) (T : List Int) (a x6 : Int) (ha : a < K.length) (h6 : 0 ≤ x6) (h6' : x6 < 1000) (s : Nat) (hs : s < 4294967296) (hT : T.length < 100)
  (h : ∀ (L' : List Int) (x6' : Int), (∀ x ∈ L', x ∈ sk K P a) → L'.Nodup → (sk K P a = [] ∨ (one K a = true ∧ ∃ k, L' = [k]) ∨ (one K a = false ∧ L' = sk K P a)) → 0 ≤ x6' → x6' ≤ x6 + 1 →
   Ex (fun k => imprimaturlaw06_Config.l0 k ls ((bs L' s : Nat) : Int) x6' (T ++ L') K P) Q) (ha1 : -1 ≤ a) :
  ∀ (rest pre acc : List Int), kids P a = pre ++ rest → acc = pre.filter (fun x => solidB (rd K x)) →
  Ex (fun k => imprimaturlaw06_Config.l1 k ls (s : Int) x6 T a acc (kids P a) ((kids P a).length : Int) (pre.length : Int) K P) Q := by
 have hn := hI.1
 have hkl := kids_len P a
 intro rest
 induction rest with
 | nil =>
  intro pre acc hp hacc
  rw [List.append_nil] at hp
  have ea : acc = sk K P a := by rw [hacc, ← hp]; rfl
  have hl : (kids P a).length = pre.length := by rw [hp]
  have hj := cfg_j2 hI h24 T acc a x6 h6 h6' s hs hT ea h
  by_cases h0 : a < 0
  ·refine Ex.st hj (fun k => ?_)
   simp only [imprimaturlaw06_Config.l1]
   rw [if_neg (by omega), if_pos h0, show one K a = true by rw [show a = -1 by omega]; rfl, Bool.true_and]
  ·have eo : one K a = (rd K a == 1) := by unfold one; rw [show (a == -1) = false from beq_eq_false_iff_ne.mpr (by omega)]; rfl
   by_cases h1 : rd K a = 1
   ·refine Ex.st hj (fun k => ?_)
    simp only [imprimaturlaw06_Config.l1]
    rw [if_neg (by omega), if_neg h0, if_pos (by omega), if_pos (by omega), if_pos h1, eo, h1]; rfl
   ·refine Ex.st hj (fun k => ?_)
    simp only [imprimaturlaw06_Config.l1]
    rw [if_neg (by omega), if_neg h0, if_pos (by omega), if_pos (by omega), if_neg h1, eo, show (rd K a == 1) = false from beq_eq_false_iff_ne.mpr h1]; rfl
 | cons x rest ih =>
  intro pre acc hp hacc
  have hlen : (kids P a).length = pre.length + (rest.length + 1) := by rw [hp]; simp
  have hr : rd (kids P a) (pre.length : Int) = x := by rw [hp]; exact rd_mid pre x rest
  have hx := kids_in hn a x (by rw [hp]; simp)
  have hal : acc.length ≤ pre.length := by rw [hacc]; exact List.length_filter_le _ _
  have hok := okS_iff.1 (hI.2.2.1 x.toNat (by omega))
  have er : K.getD x.toNat 0 = rd K x := rfl
  rw [er] at hok
  by_cases hx2 : rd K x ≤ 2
  ·have hsol : solidB (rd K x) = true := solidB_iff.2 (by omega)
   refine Ex.st (ih (pre ++ [x]) (acc ++ [x]) (by rw [hp]; simp) (by rw [hacc, List.filter_append, List.filter_cons, if_pos hsol]; rfl)) (fun k => ?_)
   simp only [imprimaturlaw06_Config.l1]
   rw [if_pos (by omega), if_pos (by omega), if_pos (by omega), hr, if_pos (by omega), if_pos (by omega), if_pos hx2, if_pos (by omega), w1 _ (by omega), List.length_append]; rfl
  ·have hsol : ¬ solidB (rd K x) = true := fun e => by have := solidB_iff.1 e; omega
   refine Ex.st (ih (pre ++ [x]) acc (by rw [hp]; simp) (by rw [hacc, List.filter_append, List.filter_cons, if_neg hsol]; simp)) (fun k => ?_)
   simp only [imprimaturlaw06_Config.l1]
   rw [if_pos (by omega), if_pos (by omega), if_pos (by omega), hr, if_pos (by omega), if_pos (by omega), if_neg hx2, w1 _ (by omega), List.length_append]; rfl
end
theorem cfg_l0 {K P : List Int} (hI : Inv K P) (h24 : K.length ≤ 24) (ls : List Int) : ∀ (d : Nat) (D T : List Int) (s : Nat) (x6 : Int), d + D.length = K.length + 1 → CI K P D T s → 0 ≤ x6 → x6 ≤ D.length →
  Ex (fun k => imprimaturlaw06_Config.l0 k ls (s : Int) x6 T K P) (fun c => ∃ s : Nat, c = s ∧ s < 2 ^ K.length ∧ LP K P (-1) s) := by
 have hn := hI.1
 intro d
 induction d with
 | zero =>
  intro D T s x6 hd hC h0 h1
  have := hC.len hI
  have hT : T = [] := List.length_eq_zero_iff.1 (by omega)
  subst hT
  refine ⟨s, Ev.ret (fun k => ?_), s, rfl, hC.lt hI, hC.done hI⟩
  simp only [imprimaturlaw06_Config.l0]
  rw [if_neg (by simp)]
 | succ d ih =>
  intro D T s x6 hd hC h0 h1
  cases T with
  | nil =>
   refine ⟨s, Ev.ret (fun k => ?_), s, rfl, hC.lt hI, hC.done hI⟩
   simp only [imprimaturlaw06_Config.l0]
   rw [if_neg (by simp)]
  | cons a T =>
   have hlen := hC.len hI
   have hs : s < 4294967296 := Nat.lt_of_lt_of_le (hC.lt hI) (Nat.pow_le_pow_right (by decide) (show K.length ≤ 32 by omega))
   rw [List.length_cons] at hlen
   have ha : -1 ≤ a ∧ a < K.length := by
    rcases hC.el a (List.mem_append_right _ (List.mem_cons_self ..)) with e | ⟨e, f, _⟩ <;> omega
   refine Ex.st (f := fun k => (imprimaturref06_Shape_Kids.f k K P a).bind fun t109 => (imprimaturlaw06_Config.l1 k ls (s : Int) x6 T a ([] : List Int) t109 (t109.length : Int) 0 K P)) (Ex.bd (rKids_f K P a (by omega)) ?_) (fun k => ?_)
   ·refine cfg_l1 hI h24 T a x6 ha.2 h0 (by omega) s hs (by omega) ?_ ha.1 (kids P a) [] [] rfl rfl
    intro L' x6' hL hd' hc a0 a1
    have hp : ∀ x ∈ L', 0 ≤ x := fun x hx => (kids_in hn a x (List.mem_filter.1 (hL x hx)).1).1
    refine ih (D ++ [a]) (T ++ L') (bs L' s) x6' (by rw [List.length_append]; simp; omega) (hC.step hI hL hd' hc (fun j => tb_bs hp)) a0 (by rw [List.length_append]; simp; omega)
   ·simp only [imprimaturlaw06_Config.l0]
    rw [if_pos (by simp only [List.length_cons]; omega), if_pos (by simp only [List.length_cons]; omega), if_pos (by simp only [List.length_cons]; omega)]
    rfl
theorem config_f {K P : List Int} (hI : Inv K P) (h24 : K.length ≤ 24) (ls : List Int) :
  Ex (fun k => imprimaturlaw06_Config.f k K P ls) (fun c => ∃ s : Nat, c = s ∧ s < 2 ^ K.length ∧ LP K P (-1) s) := by
 refine cfg_l0 hI h24 ls (K.length + 1) [] [-1] 0 0 rfl ⟨by simp, fun x hx => .inl (by simpa using hx), fun j => ?_, fun x hx => (List.not_mem_nil hx).elim, by simp⟩ (by omega) (by simp)
 rw [Nat.zero_testBit]
 simp
end Go.Proofs.Ytnomeokicfpidaa.M
namespace Go.Proofs.Ytnomeokicfpidaa.M
open Go.RowKit Go.Proofs.YtnomeokicfpidaaW.PrintWords Go.Proofs.YtnomeokicfpidaaW.PrintLast Go.Proofs.YtnomeokicfpidaaW.PrintMore Go.Proofs.Ytnomeokicfpidaa.Q Go.Proofs.Ytnomeokicfpidaa.EW
set_option linter.unusedVariables false
theorem Ex.step {α : Type} {g f : Nat → Option α} {Q : α → Prop} (e : ∀ k, g (k + 1) = f k) (h : Ex f Q) : Ex g Q := Ex.st h e
theorem Ex.pos {α : Type} {c : Prop} [Decidable c] {f g : Nat → Option α} {Q : α → Prop} (h : c) (k : Ex f Q) : Ex (fun n => if c then f n else g n) Q := by simpa [h] using k
theorem Ex.neg {α : Type} {c : Prop} [Decidable c] {f g : Nat → Option α} {Q : α → Prop} (h : ¬ c) (k : Ex g Q) : Ex (fun n => if c then f n else g n) Q := by simpa [h] using k
theorem Ex.now {α : Type} {r : α} {Q : α → Prop} (h : Q r) : Ex (fun _ => some r) Q := ⟨r, Ev.now r, h⟩
theorem Ex.xbd {α β : Type} {g : Nat → Option α} {f : Nat → α → Option β} {Q : β → Prop} {R : α → Prop} (h : Ex g R) (k : ∀ a, R a → Ex (fun n => f n a) Q) : Ex (fun n => (g n).bind (fun x => f n x)) Q := by
 obtain ⟨a, ha, hr⟩ := h
 exact Ex.bd ha (k a hr)
theorem Ex.som {α β : Type} {f : Nat → α → Option β} {a : α} {Q : β → Prop} (k : Ex (fun n => f n a) Q) : Ex (fun n => (some a).bind (fun x => f n x)) Q := k
theorem and1_lt {x c k : Nat} (hx : x < 4294967296) (hc : c < 4294967296) : x ||| (c &&& 2 ^ k) < 4294967296 :=
 Nat.or_lt_two_pow (n := 32) hx (Nat.lt_of_le_of_lt Nat.and_le_left hc)
theorem and1_lt' {c k : Nat} (hc : c < 4294967296) : c &&& 2 ^ k < 4294967296 := Nat.lt_of_le_of_lt Nat.and_le_left hc
theorem tb_and1 {x c k j : Nat} : (x ||| (c &&& 2 ^ k)).testBit j = true ↔ x.testBit j = true ∨ (j = k ∧ c.testBit j = true) := by
 rw [Nat.testBit_or, Nat.testBit_and, Nat.testBit_two_pow, Bool.or_eq_true, Bool.and_eq_true, decide_eq_true_eq]
 constructor
 ·rintro (h | ⟨h, e⟩)
  ·exact .inl h
  ·exact .inr ⟨e.symm, h⟩
 ·rintro (h | ⟨e, h⟩)
  ·exact .inl h
  ·exact .inr ⟨h, e.symm⟩
def PE (K P : List Int) (i : Nat) (q : Nat) : Prop := q < 4294967296 ∧ (q = 0 ∨ ∃ s : Nat, s < 4294967296 ∧ LP K P (-1) s ∧ s.testBit i = true ∧ ∀ j : Nat, q.testBit j = true ↔ j < K.length ∧ (j : Int) ≠ i ∧ Un P (j : Int) i ∧ s.testBit j = true)
def PQ (K P Q : List Int) : Prop := Q.length ≤ K.length ∧ ∀ i : Nat, i < Q.length → ∃ q : Nat, Q.getD i 0 = (q : Int) ∧ PE K P i q
theorem PQ.app {K P Q : List Int} (h : PQ K P Q) (hl : Q.length < K.length) {q : Nat} (hq : PE K P Q.length q) : PQ K P (Q ++ [(q : Int)]) := by
 refine ⟨by simp; omega, fun i hi => ?_⟩
 rw [List.length_append, List.length_singleton] at hi
 by_cases e : i = Q.length
 ·exact ⟨q, getD_app_r e, e ▸ hq⟩
 ·rw [getD_app_l (by omega)]
  exact h.2 i (by omega)
theorem past_l1 {K P : List Int} (hn : P.length = K.length) (hT : Tree P) (h24 : K.length ≤ 24) (ls : List (List Int)) (Q : List Int) (i c : Nat) (hQ : Q.length < 1000) (hi : i < K.length) (hc : c < 4294967296) (hci : c < 2 ^ K.length) {Post : List Int → Prop}
  (next : ∀ q : Nat, q < 4294967296 → (∀ j : Nat, q.testBit j = true ↔ j < K.length ∧ (j : Int) ≠ i ∧ Un P (j : Int) i ∧ c.testBit i = true ∧ c.testBit j = true) → Ex (fun k => imprimaturlaw07_Past.l0 k ls (Q ++ [(q : Int)]) ((i + 1 : Nat) : Int) K P) Post) :
  ∀ (d x q : Nat), x + d = K.length → q < 4294967296 → (∀ j : Nat, q.testBit j = true ↔ j < x ∧ (j : Int) ≠ i ∧ Un P (j : Int) i ∧ c.testBit i = true ∧ c.testBit j = true) →
  Ex (fun k => imprimaturlaw07_Past.l1 k ls Q (i : Int) (q : Int) (c : Int) (K.length : Int) (x : Int) K P) Post := by
 intro d
 induction d with
 | zero =>
  intro x q hx hq hb
  refine Ex.step (fun k => imprimaturlaw07_Past.l1.eq_2 ..) ?_
  refine Ex.neg (by omega) (Ex.pos (by omega) ?_)
  rw [w1 i (by omega)]
  exact next q hq (fun j => by rw [hb, show x = K.length by omega])
 | succ d ih =>
  intro x q hx hq hb
  have keep : ¬ ((x : Int) ≠ i ∧ Un P (x : Int) i ∧ c.testBit i = true ∧ c.testBit x = true) → Ex (fun k => imprimaturlaw07_Past.l1 k ls Q (i : Int) (q : Int) (c : Int) (K.length : Int) ((x + 1 : Nat) : Int) K P) Post := fun h => by
   refine ih (x + 1) q (by omega) hq (fun j => ?_)
   rw [hb]
   constructor
   ·rintro ⟨a, b⟩; exact ⟨by omega, b⟩
   ·rintro ⟨a, b⟩
    refine ⟨?_, b⟩
    by_cases e : j = x
    ·subst e; exact absurd b h
    ·omega
  refine Ex.step (fun k => imprimaturlaw07_Past.l1.eq_2 ..) ?_
  refine Ex.pos (by omega) ?_
  rw [w1 x (by omega), u64w i (by omega), u64w x (by omega)]
  by_cases e : (x : Int) = i
  ·exact Ex.pos e (keep (fun h => h.1 e))
  ·refine Ex.neg e (Ex.bd (rUnder_f hn hT (by omega) (by omega) (by omega) (by omega)) ?_)
   by_cases u : unB P (x : Int) i = true
   ·refine Ex.pos u (Ex.pos (by omega) ?_)
    rw [bit1 c i hc]
    by_cases hbi : c.testBit i = true
    ·refine Ex.pos (by rw [if_pos hbi]) (Ex.pos (by omega) ?_)
     rw [shl_one x (by omega), u32_and c _ hc (pow_lt32 (by omega)), u32_or q _ hq (and1_lt' hc)]
     refine ih (x + 1) _ (by omega) (and1_lt hq hc) (fun j => ?_)
     rw [tb_and1, hb]
     have u' := (unB_iff hT (by omega) (by omega)).1 u
     constructor
     ·rintro (⟨a, b⟩ | ⟨rfl, b⟩)
      ·exact ⟨by omega, b⟩
      ·exact ⟨by omega, e, u', hbi, b⟩
     ·rintro ⟨a, b, c', d', e'⟩
      by_cases g : j = x
      ·exact .inr ⟨g, e'⟩
      ·exact .inl ⟨by omega, b, c', d', e'⟩
    ·exact Ex.neg (by rw [if_neg hbi]; simp) (keep (fun h => hbi h.2.2.1))
   ·exact Ex.neg u (keep (fun h => u ((unB_iff hT (by omega) (by omega)).2 h.2.1)))
theorem past_l0 {K P : List Int} (hI : Inv K P) (h24 : K.length ≤ 24) (ls : List (List Int)) : ∀ (d i : Nat) (Q : List Int), i + d = K.length → Q.length = i → PQ K P Q →
  Ex (fun k => imprimaturlaw07_Past.l0 k ls Q (i : Int) K P) (PQ K P) := by
 have hn := hI.1
 have hT := hI.tree
 have h32 : (2 : Nat) ^ K.length ≤ 2 ^ 24 := Nat.pow_le_pow_right (by decide) h24
 have h32' : (2 : Nat) ^ K.length ≤ 16777216 := h32
 clear h32
 intro d
 induction d with
 | zero =>
  intro i Q hi hl hQ
  refine Ex.step (fun k => imprimaturlaw07_Past.l0.eq_2 ..) ?_
  refine Ex.neg (by omega) (Ex.step (fun k => imprimaturlaw07_Past.j1.eq_2 ..) ?_)
  exact Ex.neg (by simp) (Ex.now hQ)
 | succ d ih =>
  intro i Q hi hl hQ
  have nxt : ∀ q : Nat, PE K P i q → Ex (fun k => imprimaturlaw07_Past.l0 k ls (Q ++ [(q : Int)]) ((i + 1 : Nat) : Int) K P) (PQ K P) := fun q hq =>
   ih (i + 1) (Q ++ [(q : Int)]) (by omega) (by simp [hl]) (hQ.app (by omega) (hl ▸ hq))
  have zero : Ex (fun k => imprimaturlaw07_Past.j2 k ls Q (i : Int) 0 false K P) (PQ K P) := by
   refine Ex.step (fun k => imprimaturlaw07_Past.j2.eq_2 ..) ?_
   refine Ex.neg (by simp) (Ex.pos (by omega) ?_)
   rw [w1 i (by omega)]
   exact nxt 0 ⟨by decide, .inl rfl⟩
  refine Ex.step (fun k => imprimaturlaw07_Past.l0.eq_2 ..) ?_
  refine Ex.pos (by omega) (Ex.step (fun k => imprimaturlaw07_Past.j1.eq_2 ..) ?_)
  by_cases hm : (i : Int) < (ls.length : Int)
  ·refine Ex.pos (decide_eq_true hm) (Ex.pos (by omega) (Ex.pos hm ?_))
   by_cases hp : ((rd_L2 ls (i : Int)).length : Int) > 0
   ·refine Ex.pos hp (Ex.pos hp ?_)
    by_cases h3 : (Int.tmod (rd (rd_L2 ls (i : Int)) 0) 3 != 0) = true
    ·rw [h3]
     refine Ex.step (fun k => imprimaturlaw07_Past.j2.eq_2 ..) ?_
     refine Ex.pos rfl (Ex.pos (by omega) (Ex.pos hm (Ex.xbd (config_f hI h24 (rd_L2 ls (i : Int))) ?_)))
     rintro _ ⟨c, rfl, hc, hLP⟩
     refine past_l1 hn hT h24 ls Q i c (by omega) (by omega) (by omega) hc (fun q hq hb => nxt q ⟨hq, ?_⟩) K.length 0 0 (by omega) (by decide) (fun j => by simp)
     by_cases hci : c.testBit i = true
     ·right
      exact ⟨c, by omega, hLP, hci, fun j => by rw [hb]; simp [hci]⟩
     ·left
      refine Nat.eq_of_testBit_eq (fun j => ?_)
      rw [Nat.zero_testBit]
      exact eq_false_of_ne_true (fun h => hci ((hb j).1 h).2.2.2.1)
    ·rw [eq_false_of_ne_true h3]; exact zero
   ·exact Ex.neg hp zero
  ·refine Ex.neg (by rw [decide_eq_false hm]; simp) (Ex.now hQ)
theorem past_f {K P : List Int} (hI : Inv K P) (h24 : K.length ≤ 24) (ls : List (List Int)) : Ex (fun k => imprimaturlaw07_Past.f k K P ls) (PQ K P) := by
 unfold imprimaturlaw07_Past.f
 exact past_l0 hI h24 ls K.length 0 [] (by omega) rfl ⟨by simp, fun i hi => by simp at hi⟩
theorem below_congr {K P : List Int} {s s' a : Int} (h : ∀ j : Nat, j < K.length → (j : Int) ≠ a → unB P j a = true → inB s j = inB s' j) : belowL K P s a = belowL K P s' a := by
 unfold belowL belowFrom
 congr 1
 refine List.filter_congr (fun j hj => ?_)
 have hj' : j < K.length := by have := List.mem_range'_1.1 hj; omega
 by_cases e : (j : Int) = a
 ·simp [e]
 ·by_cases u : unB P j a = true
  ·rw [h j hj' e u]
  ·simp [u]
theorem wasS_nat (Q : List Int) (i : Nat) : wasS Q (i : Int) = if i < Q.length then Q.getD i 0 else 0 := by
 unfold wasS
 rw [if_neg (by omega)]
 by_cases h : i < Q.length
 ·rw [if_neg (by omega), if_pos h, rd_nat]
 ·rw [if_pos (by omega), if_neg h]
theorem inB_zero (j : Nat) : inB 0 (j : Int) = false := by
 have := inB_nat 0 j (by decide)
 rw [Nat.zero_testBit] at this; exact this
theorem below_zero (K P : List Int) (a : Int) : belowL K P 0 a = [] := by
 cases h : belowL K P 0 a with
 | nil => rfl
 | cons x L =>
  have : x ∈ belowL K P 0 a := by rw [h]; simp
  obtain ⟨j, rfl, _, _, h3, _⟩ := mem_below.1 this
  rw [inB_zero] at h3; cases h3
theorem PE.ok {K P : List Int} (hO : Ok K P) {i q : Nat} (h : PE K P i q) : belowL K P (q : Int) (i : Int) = [] ∨ BL K P (i : Int) (belowL K P (q : Int) (i : Int)) := by
 have hn := hO.1
 obtain ⟨hq, rfl | ⟨s, hs, hLP, hi, hb⟩⟩ := h
 ·exact .inl (below_zero K P _)
 ·right
  rw [below_congr (s' := (s : Int)) (fun j hj e u => ?_)]
  ·exact LP.below hO hLP hs (.inr ⟨by omega, by rw [Int.toNat_natCast]; exact hi⟩)
  ·rw [inB_nat q j hq, inB_nat s j hs, Bool.eq_iff_iff, hb]
   exact ⟨fun h => h.2.2.2, fun h => ⟨hj, e, (unB_iff hO.tree (by omega) (by omega)).1 u, h⟩⟩
theorem PQ.ok {K P Q : List Int} (hO : Ok K P) (h : PQ K P Q) : PastOk K P Q := by
 intro i h0 h1
 obtain ⟨i, rfl⟩ : ∃ j : Nat, i = (j : Int) := ⟨i.toNat, by omega⟩
 rw [wasS_nat]
 by_cases hi : i < Q.length
 ·rw [if_pos hi]
  obtain ⟨q, e, hq⟩ := h.2 i hi
  rw [e]; exact hq.ok hO
 ·rw [if_neg hi]; exact .inl (below_zero K P _)
theorem PQ.nil (K P : List Int) : PQ K P [] := ⟨by simp, fun i hi => by simp at hi⟩
end Go.Proofs.Ytnomeokicfpidaa.M
namespace Go.Proofs.Ytnomeokicfpidaa.M
open Go.RowKit Go.Proofs.YtnomeokicfpidaaW.PrintWords Go.Proofs.YtnomeokicfpidaaW.PrintLast Go.Proofs.YtnomeokicfpidaaW.PrintMore Go.Proofs.Ytnomeokicfpidaa.Q Go.Proofs.Ytnomeokicfpidaa.EW
set_option linter.unusedVariables false
def remB (K P : List Int) (a : Int) : Bool := (kids P a).any (fun k => decide (3 ≤ rd K k))
theorem remembers_l0 {K P : List Int} (hO : Ok K P) (L : List Int) (hl : L.length < 1000000) (hL : ∀ x ∈ L, 0 ≤ x ∧ x < K.length) : ∀ (rest pre : List Int), L = pre ++ rest →
  Ev (fun k => enter_remembers.l0 k L (L.length : Int) (pre.length : Int) K P) (rest.any (fun k => decide (3 ≤ rd K k))) := by
 intro rest
 induction rest with
 | nil =>
  intro pre hp
  have : L.length = pre.length := by rw [hp, List.append_nil]
  refine Ev.step (fun k => enter_remembers.l0.eq_2 ..) ?_
  exact Ev.neg (by omega) (Ev.now _)
 | cons x rest ih =>
  intro pre hp
  have hx := hL x (by rw [hp]; simp)
  have hlen : L.length = pre.length + (rest.length + 1) := by rw [hp]; simp
  have hr : rd L (pre.length : Int) = x := by
   rw [hp, rd_nat]; simp [List.getD_eq_getElem?_getD]
  have h4 := rd_range hO hx.1 hx.2
  refine Ev.step (fun k => enter_remembers.l0.eq_2 ..) ?_
  rw [hr, w1 _ (by omega)]
  refine Ev.pos (by omega) (Ev.pos (by omega) (Ev.pos (by omega) (Ev.pos hx.1 (Ev.pos hx.2 ?_))))
  rw [List.any_cons]
  by_cases h3 : 3 ≤ rd K x
  ·rw [decide_eq_true h3, Bool.true_or]
   by_cases e : rd K x = 3
   ·exact Ev.pos e (Ev.now _)
   ·exact Ev.neg e (Ev.pos (by omega) (Ev.now _))
  ·rw [decide_eq_false h3, Bool.false_or]
   refine Ev.neg (by omega) (Ev.neg (by omega) ?_)
   have := ih (pre ++ [x]) (by rw [hp]; simp)
   rw [List.length_append] at this
   exact this
theorem remembers_f {K P : List Int} (hO : Ok K P) {a : Int} (h0 : 0 ≤ a) (h1 : a < K.length) : Ev (fun k => enter_remembers.f k K P a) (remB K P a) := by
 have h24 := hO.2.2.2.2
 have hn := hO.1
 have hk := kids_len P a
 unfold enter_remembers.f
 refine Ev.neg (by omega) (Ev.step (fun k => enter_remembers.j0.eq_2 ..) ?_)
 refine Ev.neg (by rw [decide_eq_false (by omega)]; simp) (Ev.bd (Kids_f K P a (by omega)) ?_)
 exact remembers_l0 hO _ (by omega) (fun x hx => by have := hO.kid hx; omega) (kids P a) [] rfl
def remS (K P : List Int) (c : Int) (left Q : List Int) (i : Nat) : Int := if (i : Int) ∈ left ∧ remB K P (i : Int) = true then ((bs (belowL K P c (i : Int)) 0 : Nat) : Int) else wasS Q (i : Int)
theorem rem_l1 {K P : List Int} (c : Int) (left : List Int) (j a : Nat) (B L : List Int) (hB : B.length < 1000) (ha : a < B.length) (hL : ∀ x ∈ L, 0 ≤ x ∧ x < 32) (hl : L.length < 1000) (hj : j < 100000) {Post : List Int → Prop}
  (next : Ex (fun k => enter_Remember.l0 k c (B.set a ((bs L 0 : Nat) : Int)) left (left.length : Int) ((j + 1 : Nat) : Int) K P) Post) :
  ∀ (rest pre : List Int) (s : Nat), L = pre ++ rest → bs rest s = bs L 0 → s < 4294967296 →
  Ex (fun k => enter_Remember.l1 k c (B.set a (s : Int)) (a : Int) left (left.length : Int) (j : Int) L (L.length : Int) (pre.length : Int) K P) Post := by
 intro rest
 induction rest with
 | nil =>
  intro pre s hp hb hs
  have : L.length = pre.length := by rw [hp, List.append_nil]
  refine Ex.step (fun k => enter_Remember.l1.eq_2 ..) ?_
  refine Ex.neg (by omega) ?_
  rw [w1 j (by omega)]
  have e : s = bs L 0 := hb
  rw [e]; exact next
 | cons x rest ih =>
  intro pre s hp hb hs
  have hx := hL x (by rw [hp]; simp)
  have hlen : L.length = pre.length + (rest.length + 1) := by rw [hp]; simp
  have hr : rd L (pre.length : Int) = x := by
   rw [hp, rd_nat]; simp [List.getD_eq_getElem?_getD]
  obtain ⟨i, rfl⟩ : ∃ i : Nat, x = (i : Int) := ⟨x.toNat, by omega⟩
  have hs' : s ||| 2 ^ i < 4294967296 := Nat.or_lt_two_pow (n := 32) hs (pow_lt32 (by omega))
  have hrd : rd (B.set a (s : Int)) (a : Int) = (s : Int) := by
   rw [rd_nat, getD_set ha, if_pos rfl]
  refine Ex.step (fun k => enter_Remember.l1.eq_2 ..) ?_
  rw [hr, hrd, shl_one i (by omega), u32_or s _ hs (pow_lt32 (by omega)), w1 _ (by omega), Int.toNat_natCast, List.set_set]
  refine Ex.pos (by omega) (Ex.pos (by omega) (Ex.pos (by omega) (Ex.pos (by omega) (Ex.pos (by rw [List.length_set]; omega) (Ex.pos (by omega) ?_)))))
  have := ih (pre ++ [(i : Int)]) (s ||| 2 ^ i) (by rw [hp]; simp) hb hs'
  rw [List.length_append] at this
  exact this
theorem rem_l0 {K P : List Int} (hO : Ok K P) (c : Int) (left Q : List Int) (hl : left.length < 1000) (hL : ∀ x ∈ left, 0 ≤ x ∧ x < K.length) : ∀ (rest pre : List Int) (B : List Int), left = pre ++ rest → B.length = K.length → (∀ i : Nat, i < K.length → B.getD i 0 = remS K P c pre Q i) →
  Ex (fun k => enter_Remember.l0 k c B left (left.length : Int) (pre.length : Int) K P) (fun out => out.length = K.length ∧ ∀ i : Nat, i < K.length → out.getD i 0 = remS K P c left Q i) := by
 have hn := hO.1
 have h24 := hO.2.2.2.2
 intro rest
 induction rest with
 | nil =>
  intro pre B hp hB hb
  have : left.length = pre.length := by rw [hp, List.append_nil]
  refine Ex.step (fun k => enter_Remember.l0.eq_2 ..) ?_
  refine Ex.neg (by omega) (Ex.now ⟨hB, fun i hi => ?_⟩)
  rw [hb i hi, hp, List.append_nil]
 | cons x rest ih =>
  intro pre B hp hB hb
  have hx := hL x (by rw [hp]; simp)
  have hlen : left.length = pre.length + (rest.length + 1) := by rw [hp]; simp
  have hr : rd left (pre.length : Int) = x := by
   rw [hp, rd_nat]; simp [List.getD_eq_getElem?_getD]
  obtain ⟨a, rfl⟩ : ∃ i : Nat, x = (i : Int) := ⟨x.toNat, by omega⟩
  refine Ex.step (fun k => enter_Remember.l0.eq_2 ..) ?_
  rw [hr]
  refine Ex.pos (by omega) (Ex.pos (by omega) (Ex.pos (by omega) (Ex.bd (remembers_f hO hx.1 hx.2) ?_)))
  by_cases hm : remB K P (a : Int) = true
  ·refine Ex.pos hm (Ex.pos (by omega) (Ex.pos (by omega) (Ex.bd (below_f hn hO.tree (by omega) c (a : Int) (by omega) hx.2) ?_)))
   rw [Int.toNat_natCast]
   have hbl := below_len K P c (a : Int)
   have := rem_l1 (K := K) (P := P) (Post := fun out => out.length = K.length ∧ ∀ i : Nat, i < K.length → out.getD i 0 = remS K P c left Q i) c left pre.length a B (belowL K P c (a : Int)) (by omega) (by omega) (fun x hx => by
    obtain ⟨j, rfl, hj, _⟩ := mem_below.1 hx; omega) (by omega) (by omega) ?_ (belowL K P c (a : Int)) [] 0 rfl rfl (by decide)
   ·exact this
   ·have := ih (pre ++ [(a : Int)]) (B.set a ((bs (belowL K P c (a : Int)) 0 : Nat) : Int)) (by rw [hp]; simp) (by rw [List.length_set]; exact hB) (fun i hi => ?_)
    ·rw [List.length_append] at this
     exact this
    ·rw [getD_set (by omega)]
     unfold remS
     by_cases e : a = i
     ·subst e
      rw [if_pos rfl, if_pos ⟨by simp, hm⟩]
     ·rw [if_neg e, hb i hi]
      unfold remS
      by_cases g : (i : Int) ∈ pre ∧ remB K P (i : Int) = true
      ·rw [if_pos g, if_pos ⟨List.mem_append_left _ g.1, g.2⟩]
      ·rw [if_neg g, if_neg (fun h => g ⟨?_, h.2⟩)]
       rcases List.mem_append.1 h.1 with h' | h'
       ·exact h'
       ·have := List.mem_singleton.1 h'; omega
  ·refine Ex.neg hm ?_
   rw [w1 _ (by omega)]
   have := ih (pre ++ [(a : Int)]) B (by rw [hp]; simp) hB (fun i hi => ?_)
   ·rw [List.length_append] at this
    exact this
   ·rw [hb i hi]
    unfold remS
    by_cases g : (i : Int) ∈ pre ∧ remB K P (i : Int) = true
    ·rw [if_pos g, if_pos ⟨List.mem_append_left _ g.1, g.2⟩]
    ·rw [if_neg g, if_neg (fun h => g ⟨?_, h.2⟩)]
     rcases List.mem_append.1 h.1 with h' | h'
     ·exact h'
     ·have := List.mem_singleton.1 h'
      exact absurd (this ▸ h.2) hm
theorem Remember_f {K P : List Int} (hO : Ok K P) (c : Int) (left Q : List Int) (hl : left.length < 1000) (hL : ∀ x ∈ left, 0 ≤ x ∧ x < K.length) (hQ : Q.length ≤ K.length) :
  Ex (fun k => enter_Remember.f k K P c left Q) (fun out => out.length = K.length ∧ ∀ i : Nat, i < K.length → out.getD i 0 = remS K P c left Q i) := by
 have h24 := hO.2.2.2.2
 unfold enter_Remember.f
 refine Ex.pos (by omega) (Ex.pos (by omega) (Ex.som ?_))
 have e : Q.take (min Q.length (List.replicate ((K.length : Int)).toNat (0 : Int)).length) ++ (List.replicate ((K.length : Int)).toNat (0 : Int)).drop (min Q.length (List.replicate ((K.length : Int)).toNat (0 : Int)).length) = Q ++ List.replicate (K.length - Q.length) 0 := by
  rw [List.length_replicate, Int.toNat_natCast, Nat.min_eq_left hQ, List.take_length, List.drop_replicate]
 rw [e]
 refine rem_l0 hO c left Q hl hL left [] _ rfl (by simp; omega) (fun i hi => ?_)
 unfold remS
 rw [if_neg (by simp), wasS_nat]
 by_cases h : i < Q.length
 ·rw [if_pos h, getD_app_l h]
 ·rw [if_neg h, List.getD_eq_getElem?_getD, List.getElem?_append_right (by omega), List.getElem?_replicate]
  split <;> rfl
end Go.Proofs.Ytnomeokicfpidaa.M
namespace Go.Proofs.Ytnomeokicfpidaa.Q
open Go.RowKit Go.Proofs.YtnomeokicfpidaaW.PrintWords Go.Proofs.YtnomeokicfpidaaW.PrintLast Go.Proofs.YtnomeokicfpidaaW.PrintMore
attribute [local go_sem] max2_int min2_int max_two min_two max_three min_three max_four min_four
set_option linter.unusedVariables false
set_option linter.unusedSimpArgs false
mutual
def shape_Domain.j0 : Nat → Int → Int → Bool → List Int → List Int → Option (Int)
 | 0, _, _, _, _, _ => none
 | k + 1, x1, x2, x17, x102000, x102001 => if x17 = true then (some (-1)) else (if 0 ≤ x1 then (if x1 < (x102001.length : Int) then (shape_Domain.l0 k x2 (rd x102001 x1) x102000 x102001) else (none)) else (none))
def shape_Domain.l0 : Nat → Int → Int → List Int → List Int → Option (Int)
 | 0, _, _, _, _ => none
 | k + 1, x2, x7, x102000, x102001 => if x7 = (-1) then (some x7) else (if 0 ≤ x7 then (if x7 < (x102000.length : Int) then (if (rd x102000 x7) = 1 then (if x7 = x2 then (if x7 < (x102001.length : Int) then (shape_Domain.l0 k x2 (rd x102001 x7) x102000 x102001) else (none)) else ((shape_Under.f k x102000 x102001 x2 x7).bind fun t107 => (if t107 = true then (some x7) else (if x7 < (x102001.length : Int) then (shape_Domain.l0 k x2 (rd x102001 x7) x102000 x102001) else (none))))) else (if x7 < (x102001.length : Int) then (shape_Domain.l0 k x2 (rd x102001 x7) x102000 x102001) else (none))) else (none)) else (none))
end
def shape_Domain.f (k : Nat) (l0_0 : List Int) (l0_1 : List Int) (a1 : Int) (a2 : Int) : Option (Int) := (shape_Shape_is.f l0_0 l0_1 a1).bind fun t102 => (if t102 = true then ((shape_Shape_is.f l0_0 l0_1 a2).bind fun t103 => (shape_Domain.j0 k a1 a2 (!t103) l0_0 l0_1)) else (shape_Domain.j0 k a1 a2 true l0_0 l0_1))
end Go.Proofs.Ytnomeokicfpidaa.Q
namespace Go.Proofs.Ytnomeokicfpidaa.Q
open Go.RowKit Go.Proofs.YtnomeokicfpidaaW.PrintWords Go.Proofs.YtnomeokicfpidaaW.PrintLast Go.Proofs.YtnomeokicfpidaaW.PrintMore
attribute [local go_sem] max2_int min2_int max_two min_two max_three min_three max_four min_four
set_option linter.unusedVariables false
set_option linter.unusedSimpArgs false
mutual
def imprimaturref06_Shape_Domain.j0 : Nat → Int → Int → Bool → List Int → List Int → Option (Int)
 | 0, _, _, _, _, _ => none
 | k + 1, x1, x2, x17, x102000, x102001 => if x17 = true then (some (-1)) else (if 0 ≤ x1 then (if x1 < (x102001.length : Int) then (imprimaturref06_Shape_Domain.l0 k x2 (rd x102001 x1) x102000 x102001) else (none)) else (none))
def imprimaturref06_Shape_Domain.l0 : Nat → Int → Int → List Int → List Int → Option (Int)
 | 0, _, _, _, _ => none
 | k + 1, x2, x7, x102000, x102001 => if x7 ≥ 0 then (if 0 ≤ x7 then (if x7 < (x102000.length : Int) then (if (rd x102000 x7) = 1 then (if x7 = x2 then (if x7 < (x102001.length : Int) then (imprimaturref06_Shape_Domain.l0 k x2 (rd x102001 x7) x102000 x102001) else (none)) else ((imprimaturref06_Shape_Under.f k x102000 x102001 x2 x7).bind fun t107 => (if t107 = true then (some x7) else (if x7 < (x102001.length : Int) then (imprimaturref06_Shape_Domain.l0 k x2 (rd x102001 x7) x102000 x102001) else (none))))) else (if x7 < (x102001.length : Int) then (imprimaturref06_Shape_Domain.l0 k x2 (rd x102001 x7) x102000 x102001) else (none))) else (none)) else (none)) else (some (-1))
end
def imprimaturref06_Shape_Domain.f (k : Nat) (l0_0 : List Int) (l0_1 : List Int) (a1 : Int) (a2 : Int) : Option (Int) := (imprimaturref06_Shape_in.f l0_0 l0_1 a1).bind fun t102 => (if t102 = true then ((imprimaturref06_Shape_in.f l0_0 l0_1 a2).bind fun t103 => (imprimaturref06_Shape_Domain.j0 k a1 a2 (!t103) l0_0 l0_1)) else (imprimaturref06_Shape_Domain.j0 k a1 a2 true l0_0 l0_1))
end Go.Proofs.Ytnomeokicfpidaa.Q
namespace Go.Proofs.Ytnomeokicfpidaa.Q
open Go.RowKit Go.Proofs.YtnomeokicfpidaaW.PrintWords Go.Proofs.YtnomeokicfpidaaW.PrintLast Go.Proofs.YtnomeokicfpidaaW.PrintMore
attribute [local go_sem] max2_int min2_int max_two min_two max_three min_three max_four min_four
set_option linter.unusedVariables false
set_option linter.unusedSimpArgs false
def imprimaturref06_Shape_Leave.l0 : Nat → Int → Int → List Int → Int → List Int → List Int → Option (List Int)
 | 0, _, _, _, _, _, _ => none
 | k + 1, x1, x2, x7, x8, x102000, x102001 => if x8 ≥ 0 then (if 0 ≤ (IntKind.u64.wrap (x8)) then (if (Go.bits .and .u32 (shr .u32 x1 (IntKind.u64.wrap (x8))) 1) = 1 then (if x8 = x2 then (imprimaturref06_Shape_Leave.l0 k x1 x2 x7 (wrap64 (x8 - 1)) x102000 x102001) else ((imprimaturref06_Shape_Under.f k x102000 x102001 x8 x2).bind fun t102 => (if t102 = true then (if x7.length < 17592186044416 then (imprimaturref06_Shape_Leave.l0 k x1 x2 (x7 ++ [x8]) (wrap64 (x8 - 1)) x102000 x102001) else (none)) else (imprimaturref06_Shape_Leave.l0 k x1 x2 x7 (wrap64 (x8 - 1)) x102000 x102001)))) else (imprimaturref06_Shape_Leave.l0 k x1 x2 x7 (wrap64 (x8 - 1)) x102000 x102001)) else (none)) else (some x7)
def imprimaturref06_Shape_Leave.f (k : Nat) (l0_0 : List Int) (l0_1 : List Int) (a1 : Int) (a2 : Int) : Option (List Int) := imprimaturref06_Shape_Leave.l0 k a1 a2 ([] : List Int) (wrap64 ((l0_0.length : Int) - 1)) l0_0 l0_1
end Go.Proofs.Ytnomeokicfpidaa.Q
namespace Go.Proofs.Ytnomeokicfpidaa.Q
open Go.RowKit Go.Proofs.YtnomeokicfpidaaW.PrintWords Go.Proofs.YtnomeokicfpidaaW.PrintLast Go.Proofs.YtnomeokicfpidaaW.PrintMore
attribute [local go_sem] max2_int min2_int max_two min_two max_three min_three max_four min_four
set_option linter.unusedVariables false
set_option linter.unusedSimpArgs false
def imprimaturkeep_Copy_uint32.f (l0 : List Int) : Option (List Int) := if ([] : List Int).length + l0.length < 35184372088832 then (some (([] : List Int) ++ l0)) else (none)
end Go.Proofs.Ytnomeokicfpidaa.Q
namespace Go.Proofs.Ytnomeokicfpidaa.Q
open Go.RowKit Go.Proofs.YtnomeokicfpidaaW.PrintWords Go.Proofs.YtnomeokicfpidaaW.PrintLast Go.Proofs.YtnomeokicfpidaaW.PrintMore
attribute [local go_sem] max2_int min2_int max_two min_two max_three min_three max_four min_four
set_option linter.unusedVariables false
set_option linter.unusedSimpArgs false
def imprimaturref06_pastOf.f (l0 : List Int) (a1 : Int) : Option (Int) := if a1 ≥ 0 then (if a1 < (l0.length : Int) then (if 0 ≤ a1 then (some (rd l0 a1)) else (none)) else (some 0)) else (some 0)
end Go.Proofs.Ytnomeokicfpidaa.Q
namespace Go.Proofs.Ytnomeokicfpidaa.Q
open Go.RowKit Go.Proofs.YtnomeokicfpidaaW.PrintWords Go.Proofs.YtnomeokicfpidaaW.PrintLast Go.Proofs.YtnomeokicfpidaaW.PrintMore
attribute [local go_sem] max2_int min2_int max_two min_two max_three min_three max_four min_four
set_option linter.unusedVariables false
set_option linter.unusedSimpArgs false
mutual
def imprimaturref06_Shape_Into.l0 : Nat → List Int → List Int → List Int → Int → Int → List Int → List Int → Option (List Int)
 | 0, _, _, _, _, _, _, _ => none
 | k + 1, x2, x7, x83, x84, x85, x102000, x102001 => if x85 < x84 then (if 0 ≤ x85 then (if x85 < (x83.length : Int) then ((imprimaturref06_Shape_Into.f k x102000 x102001 (rd x83 x85) x2).bind fun t118 => (if x7.length + t118.length < 17592186044416 then (imprimaturref06_Shape_Into.l0 k x2 (x7 ++ t118) x83 x84 (wrap64 (x85 + 1)) x102000 x102001) else (none))) else (none)) else (none)) else (some x7)
def imprimaturref06_Shape_Into.l1 : Nat → List Int → Int → List Int → Int → Int → List Int → List Int → Option (List Int)
 | 0, _, _, _, _, _, _, _ => none
 | k + 1, x2, x8, x100, x101, x102, x102000, x102001 => if x102 < x101 then (if 0 ≤ x102 then (if x102 < (x100.length : Int) then ((imprimaturref06_pastOf.f x2 x8).bind fun t132 => (if 0 ≤ (IntKind.u64.wrap (rd x100 x102)) then (if (Go.bits .and .u32 (shr .u32 t132 (IntKind.u64.wrap (rd x100 x102))) 1) = 1 then ((imprimaturref06_Shape_Into.f k x102000 x102001 (rd x100 x102) x2).bind fun t133 => (some t133)) else (imprimaturref06_Shape_Into.l1 k x2 x8 x100 x101 (wrap64 (x102 + 1)) x102000 x102001)) else (none))) else (none)) else (none)) else ((imprimaturref06_Shape_Initial.f k x102000 x102001 x8).bind fun t127 => ((imprimaturref06_Shape_Into.f k x102000 x102001 t127 x2).bind fun t128 => (some t128)))
def imprimaturref06_Shape_Into.l2 : Nat → List Int → List Int → Int → Int → Int → List Int → List Int → Option (List Int)
 | 0, _, _, _, _, _, _, _ => none
 | k + 1, x2, x7, x8, x29, x30, x102000, x102001 => if x30 < x29 then (if x30 = x8 then (imprimaturref06_Shape_Into.l2 k x2 x7 x8 x29 (wrap64 (x30 + 1)) x102000 x102001) else ((imprimaturref06_Shape_Under.f k x102000 x102001 x30 x8).bind fun t136 => (if t136 = true then ((imprimaturref06_pastOf.f x2 x8).bind fun t137 => (if 0 ≤ (IntKind.u64.wrap (x30)) then (if (Go.bits .and .u32 (shr .u32 t137 (IntKind.u64.wrap (x30))) 1) = 1 then (if x7.length < 17592186044416 then (imprimaturref06_Shape_Into.l2 k x2 (x7 ++ [x30]) x8 x29 (wrap64 (x30 + 1)) x102000 x102001) else (none)) else (imprimaturref06_Shape_Into.l2 k x2 x7 x8 x29 (wrap64 (x30 + 1)) x102000 x102001)) else (none))) else (imprimaturref06_Shape_Into.l2 k x2 x7 x8 x29 (wrap64 (x30 + 1)) x102000 x102001)))) else (if (x7.length : Int) = 0 then ((imprimaturref06_Shape_Initial.f k x102000 x102001 x8).bind fun t141 => ((imprimaturref06_Shape_Into.f k x102000 x102001 t141 x2).bind fun t142 => (some t142))) else (some x7))
def imprimaturref06_Shape_Into.f : Nat → List Int → List Int → Int → List Int → Option (List Int)
 | 0, _, _, _, _ => none
 | k + 1, l0_0, l0_1, a1, l2 => (some (([a1] : List Int) : List Int)).bind fun y102 => (if 0 ≤ a1 then (if a1 < (l0_1.length : Int) then (if a1 < (l0_0.length : Int) then (if (rd l0_0 a1) = 1 then ((imprimaturref06_Shape_Initial.f k l0_0 l0_1 a1).bind fun t107 => (if t107 ≥ 0 then ((imprimaturref06_Shape_Into.f k l0_0 l0_1 t107 l2).bind fun t108 => (if y102.length + t108.length < 17592186044416 then (some (y102 ++ t108)) else (none))) else (some y102))) else (if (rd l0_0 a1) = 2 then ((imprimaturref06_Shape_Kids.f k l0_0 l0_1 a1).bind fun t114 => (imprimaturref06_Shape_Into.l0 k l2 y102 t114 (t114.length : Int) 0 l0_0 l0_1)) else (if (rd l0_0 a1) = 3 then ((imprimaturref06_Shape_Kids.f k l0_0 l0_1 (rd l0_1 a1)).bind fun t124 => (imprimaturref06_Shape_Into.l1 k l2 (rd l0_1 a1) t124 (t124.length : Int) 0 l0_0 l0_1)) else (imprimaturref06_Shape_Into.l2 k l2 ([] : List Int) (rd l0_1 a1) (l0_0.length : Int) 0 l0_0 l0_1)))) else (none)) else (none)) else (none))
end
end Go.Proofs.Ytnomeokicfpidaa.Q
namespace Go.Proofs.Ytnomeokicfpidaa.Q
open Go.RowKit Go.Proofs.YtnomeokicfpidaaW.PrintWords Go.Proofs.YtnomeokicfpidaaW.PrintLast Go.Proofs.YtnomeokicfpidaaW.PrintMore
attribute [local go_sem] max2_int min2_int max_two min_two max_three min_three max_four min_four
set_option linter.unusedVariables false
set_option linter.unusedSimpArgs false
mutual
def imprimaturref06_Shape_way.l0 : Nat → Int → Int → List Int → List Int → List Int → List Int → Int → Int → List Int → List Int → Option (List Int)
 | 0, _, _, _, _, _, _, _, _, _, _ => none
 | k + 1, x1, x2, x3, x9, x10, x24, x25, x26, x102000, x102001 => if x26 < x25 then (if 0 ≤ x26 then (if x26 < (x24.length : Int) then ((imprimaturref06_Shape_Under.f k x102000 x102001 x2 (rd x24 x26)).bind fun t115 => (if t115 = true then ((imprimaturref06_Shape_way.f k x102000 x102001 (rd x24 x26) x2 x3).bind fun t116 => (if x9.length + t116.length < 17592186044416 then (imprimaturref06_Shape_way.l0 k x1 x2 x3 (x9 ++ t116) x10 x24 x25 (wrap64 (x26 + 1)) x102000 x102001) else (none))) else (if 0 ≤ x1 then (if x1 < (x102000.length : Int) then (if (rd x102000 x1) = 2 then ((imprimaturref06_Shape_Into.f k x102000 x102001 (rd x24 x26) x3).bind fun t123 => (if x10.length + t123.length < 17592186044416 then (imprimaturref06_Shape_way.l0 k x1 x2 x3 x9 (x10 ++ t123) x24 x25 (wrap64 (x26 + 1)) x102000 x102001) else (none))) else (imprimaturref06_Shape_way.l0 k x1 x2 x3 x9 x10 x24 x25 (wrap64 (x26 + 1)) x102000 x102001)) else (none)) else (none)))) else (none)) else (none)) else (if x9.length + x10.length < 17592186044416 then (some (x9 ++ x10)) else (none))
def imprimaturref06_Shape_way.f : Nat → List Int → List Int → Int → Int → List Int → Option (List Int)
 | 0, _, _, _, _, _ => none
 | k + 1, l0_0, l0_1, a1, a2, l3 => if a1 = a2 then ((imprimaturref06_Shape_Into.f k l0_0 l0_1 a2 l3).bind fun t102 => (some t102)) else ((imprimaturref06_Shape_Kids.f k l0_0 l0_1 a1).bind fun t108 => (imprimaturref06_Shape_way.l0 k a1 a2 l3 (([a1] : List Int)) ([] : List Int) t108 (t108.length : Int) 0 l0_0 l0_1))
end
end Go.Proofs.Ytnomeokicfpidaa.Q
namespace Go.Proofs.Ytnomeokicfpidaa.Q
open Go.RowKit Go.Proofs.YtnomeokicfpidaaW.PrintWords Go.Proofs.YtnomeokicfpidaaW.PrintLast Go.Proofs.YtnomeokicfpidaaW.PrintMore
attribute [local go_sem] max2_int min2_int max_two min_two max_three min_three max_four min_four
set_option linter.unusedVariables false
set_option linter.unusedSimpArgs false
def imprimaturref06_Shape_Enter.l0 : Nat → Int → Int → List Int → Int → List Int → List Int → Option (List Int)
 | 0, _, _, _, _, _, _ => none
 | k + 1, x1, x2, x3, x9, x102000, x102001 => if 0 ≤ x9 then (if x9 < (x102001.length : Int) then (if (rd x102001 x9) = x1 then ((imprimaturref06_Shape_way.f k x102000 x102001 x9 x2 x3).bind fun t103 => (some t103)) else (imprimaturref06_Shape_Enter.l0 k x1 x2 x3 (rd x102001 x9) x102000 x102001)) else (none)) else (none)
def imprimaturref06_Shape_Enter.f (k : Nat) (l0_0 : List Int) (l0_1 : List Int) (a1 : Int) (a2 : Int) (l3 : List Int) : Option (List Int) := imprimaturref06_Shape_Enter.l0 k a1 a2 l3 a2 l0_0 l0_1
end Go.Proofs.Ytnomeokicfpidaa.Q
namespace Go.Proofs.Ytnomeokicfpidaa.Q
open Go.RowKit Go.Proofs.YtnomeokicfpidaaW.PrintWords Go.Proofs.YtnomeokicfpidaaW.PrintLast Go.Proofs.YtnomeokicfpidaaW.PrintMore
attribute [local go_sem] max2_int min2_int max_two min_two max_three min_three max_four min_four
set_option linter.unusedVariables false
set_option linter.unusedSimpArgs false
def imprimaturref06_Shape_Start.f (k : Nat) (l0_0 : List Int) (l0_1 : List Int) : Option (List Int) := (imprimaturref06_Shape_Initial.f k l0_0 l0_1 (-1)).bind fun t102 => ((imprimaturref06_Shape_Into.f k l0_0 l0_1 t102 ([] : List Int)).bind fun t103 => (some t103))
end Go.Proofs.Ytnomeokicfpidaa.Q
namespace Go.Proofs.Ytnomeokicfpidaa.Q
open Go.RowKit Go.Proofs.YtnomeokicfpidaaW.PrintWords Go.Proofs.YtnomeokicfpidaaW.PrintLast Go.Proofs.YtnomeokicfpidaaW.PrintMore
attribute [local go_sem] max2_int min2_int max_two min_two max_three min_three max_four min_four
set_option linter.unusedVariables false
set_option linter.unusedSimpArgs false
def imprimaturkeep_Same_uint32.l0 : Nat → List Int → List Int → Int → Option (Bool)
 | 0, _, _, _ => none
 | k + 1, x0, x1, x5 => if x5 < (x0.length : Int) then (if 0 ≤ x5 then (if x5 < (x1.length : Int) then (if (rd x0 x5) = (rd x1 x5) then (imprimaturkeep_Same_uint32.l0 k x0 x1 (wrap64 (x5 + 1))) else (some false)) else (none)) else (none)) else (some true)
def imprimaturkeep_Same_uint32.f (k : Nat) (l0 : List Int) (l1 : List Int) : Option (Bool) := if (l0.length : Int) = (l1.length : Int) then (imprimaturkeep_Same_uint32.l0 k l0 l1 0) else (some false)
end Go.Proofs.Ytnomeokicfpidaa.Q
namespace Go.Proofs.Ytnomeokicfpidaa.Q
open Go.RowKit Go.Proofs.YtnomeokicfpidaaW.PrintWords Go.Proofs.YtnomeokicfpidaaW.PrintLast Go.Proofs.YtnomeokicfpidaaW.PrintMore
attribute [local go_sem] max2_int min2_int max_two min_two max_three min_three max_four min_four
set_option linter.unusedVariables false
set_option linter.unusedSimpArgs false
mutual
def imprimaturref06_Shape_Remember.l0 : Nat → Int → List Int → List Int → List Int → Int → Int → List Int → List Int → Option (List Int)
 | 0, _, _, _, _, _, _, _, _ => none
 | k + 1, x1, x2, x3, x9, x22, x23, x102000, x102001 => if x23 < x22 then ((imprimaturref06_pastOf.f x3 x23).bind fun t105 => (if 0 ≤ x23 then (if x23 < (x9.length : Int) then (imprimaturref06_Shape_Remember.l0 k x1 x2 x3 (x9.set (x23 : Int).toNat t105) x22 (wrap64 (x23 + 1)) x102000 x102001) else (none)) else (none))) else (imprimaturref06_Shape_Remember.l1 k x1 x9 x2 (x2.length : Int) 0 x102000 x102001)
def imprimaturref06_Shape_Remember.l1 : Nat → Int → List Int → List Int → Int → Int → List Int → List Int → Option (List Int)
 | 0, _, _, _, _, _, _, _ => none
 | k + 1, x1, x9, x33, x34, x35, x102000, x102001 => if x35 < x34 then (if 0 ≤ x35 then (if x35 < (x33.length : Int) then ((imprimaturref06_Shape_Kids.f k x102000 x102001 (rd x33 x35)).bind fun t108 => (imprimaturref06_Shape_Remember.l2 k x1 x9 (rd x33 x35) false x33 x34 x35 t108 (t108.length : Int) 0 x102000 x102001)) else (none)) else (none)) else (some x9)
def imprimaturref06_Shape_Remember.l2 : Nat → Int → List Int → Int → Bool → List Int → Int → Int → List Int → Int → Int → List Int → List Int → Option (List Int)
 | 0, _, _, _, _, _, _, _, _, _, _, _, _ => none
 | k + 1, x1, x9, x12, x13, x33, x34, x35, x41, x42, x43, x102000, x102001 => if x43 < x42 then (if 0 ≤ x43 then (if x43 < (x41.length : Int) then (if x13 = true then (imprimaturref06_Shape_Remember.l2 k x1 x9 x12 true x33 x34 x35 x41 x42 (wrap64 (x43 + 1)) x102000 x102001) else (if 0 ≤ (rd x41 x43) then (if (rd x41 x43) < (x102000.length : Int) then (imprimaturref06_Shape_Remember.l2 k x1 x9 x12 (decide ((rd x102000 (rd x41 x43)) ≥ 3)) x33 x34 x35 x41 x42 (wrap64 (x43 + 1)) x102000 x102001) else (none)) else (none))) else (none)) else (none)) else (if x13 = true then (if 0 ≤ x12 then (if x12 < (x9.length : Int) then (imprimaturref06_Shape_Remember.l3 k x1 (x9.set (x12 : Int).toNat 0) x12 x33 x34 x35 (x102000.length : Int) 0 x102000 x102001) else (none)) else (none)) else (imprimaturref06_Shape_Remember.l1 k x1 x9 x33 x34 (wrap64 (x35 + 1)) x102000 x102001))
def imprimaturref06_Shape_Remember.l3 : Nat → Int → List Int → Int → List Int → Int → Int → Int → Int → List Int → List Int → Option (List Int)
 | 0, _, _, _, _, _, _, _, _, _, _ => none
 | k + 1, x1, x9, x12, x33, x34, x35, x64, x65, x102000, x102001 => if x65 < x64 then (if x65 = x12 then (imprimaturref06_Shape_Remember.l3 k x1 x9 x12 x33 x34 x35 x64 (wrap64 (x65 + 1)) x102000 x102001) else ((imprimaturref06_Shape_Under.f k x102000 x102001 x65 x12).bind fun t114 => (if t114 = true then (if 0 ≤ x12 then (if x12 < (x9.length : Int) then (if 0 ≤ (IntKind.u64.wrap (x65)) then (imprimaturref06_Shape_Remember.l3 k x1 (x9.set (x12 : Int).toNat (Go.bits .or .u32 (rd x9 x12) (Go.bits .and .u32 x1 (shl .u32 1 (IntKind.u64.wrap (x65)))))) x12 x33 x34 x35 x64 (wrap64 (x65 + 1)) x102000 x102001) else (none)) else (none)) else (none)) else (imprimaturref06_Shape_Remember.l3 k x1 x9 x12 x33 x34 x35 x64 (wrap64 (x65 + 1)) x102000 x102001)))) else (imprimaturref06_Shape_Remember.l1 k x1 x9 x33 x34 (wrap64 (x35 + 1)) x102000 x102001)
end
def imprimaturref06_Shape_Remember.f (k : Nat) (l0_0 : List Int) (l0_1 : List Int) (a1 : Int) (l2 : List Int) (l3 : List Int) : Option (List Int) := if 0 ≤ (l0_0.length : Int) then (if ((l0_0.length : Int) : Int).toNat ≤ 70368744177664 then ((some (List.replicate ((l0_0.length : Int) : Int).toNat 0 : List Int)).bind fun y102 => (imprimaturref06_Shape_Remember.l0 k a1 l2 l3 y102 (y102.length : Int) 0 l0_0 l0_1)) else (none)) else (none)
end Go.Proofs.Ytnomeokicfpidaa.Q
namespace Go.Proofs.Ytnomeokicfpidaa.M
open Go.RowKit Go.Proofs.YtnomeokicfpidaaW.PrintWords Go.Proofs.YtnomeokicfpidaaW.PrintLast Go.Proofs.YtnomeokicfpidaaW.PrintMore Go.Proofs.Ytnomeokicfpidaa.Q Go.Proofs.Ytnomeokicfpidaa.EW
set_option linter.unusedVariables false
theorem BL.len {K P : List Int} {a : Int} {R : List Int} (h : BL K P a R) : R.length ≤ K.length + 1 := pigeon h.nd (fun x hx => by have := h.el x hx; omega)
section
variable {K P : List Int} (hO : Ok K P)
include hO
end
end Go.Proofs.Ytnomeokicfpidaa.M
namespace Go.Proofs.Ytnomeokicfpidaa.M
open Go.RowKit Go.Proofs.YtnomeokicfpidaaW.PrintWords Go.Proofs.YtnomeokicfpidaaW.PrintLast Go.Proofs.YtnomeokicfpidaaW.PrintMore Go.Proofs.Ytnomeokicfpidaa.Q
set_option linter.unusedVariables false
theorem of_l2 (l : List Int) (hl : l.length < 17592186044416) (P : List Int) : ∀ (d i : Nat) (K : List Int), i + d = K.length → Inv2 K P i → K.length = max 1 (min l.length 12) →
  Ex (fun k => imprimaturlaw06_Of.l2 k K P (P.length : Int) (i : Int)) (OfPost l) := by
 intro d
 induction d with
 | zero =>
  intro i K hi h hn
  refine ⟨(K, P, K, P), Ev.ret (fun k => ?_), h.done (by omega), rfl, rfl, hn⟩
  have := h.1
  simp only [imprimaturlaw06_Of.l2]
  rw [if_neg (by omega)]
  exact copy2 K P (by omega) (by omega)
 | succ d ih =>
  intro i K hi h hn
  have hP := h.1
  by_cases hc : P.getD i 0 = 0 ∧ 3 ≤ K.getD i 0
  ·have ih' := ih (i + 1) (K.set i 1) (by rw [List.length_set]; omega) (h.turn (by omega) hc.1 hc.2) (by rw [List.length_set]; exact hn)
   refine Ex.st ih' (fun k => ?_)
   simp only [imprimaturlaw06_Of.l2]
   rw [if_pos (by omega), if_pos (by omega), if_pos (by omega), rd_nat, if_pos hc.1, if_pos (by omega), rd_nat, if_pos (show K.getD i 0 ≥ 3 from hc.2), w1 i (by omega), Int.toNat_natCast]
  ·refine Ex.st (ih (i + 1) K (by omega) (h.keep hc) hn) (fun k => ?_)
   simp only [imprimaturlaw06_Of.l2]
   rw [if_pos (by omega), if_pos (by omega), if_pos (by omega), rd_nat, rd_nat, w1 i (by omega)]
   by_cases h0 : P.getD i 0 = 0
   ·rw [if_pos h0, if_pos (by omega), if_neg (fun h3 => hc ⟨h0, h3⟩)]
   ·rw [if_neg h0]
theorem of_j7 (l : List Int) (hl : l.length < 17592186044416) (K P : List Int) (h : Inv K P) (hn : K.length = max 1 (min l.length 12)) (b : Bool) :
  Ex (fun k => imprimaturlaw06_Of.j7 k K P b) (OfPost l) := by
 have h1 := h.2.1
 have hP := h.1
 cases b with
 | true =>
  refine Ex.st (of_l2 l hl P (K.set 0 2).length 0 (K.set 0 2) (by omega) (Inv2.start h) (by rw [List.length_set]; exact hn)) (fun k => ?_)
  simp only [imprimaturlaw06_Of.j7]
  rw [if_pos trivial, if_pos (by omega)]; rfl
 | false =>
  refine ⟨(K, P, K, P), Ev.ret (fun k => ?_), h, rfl, rfl, hn⟩
  simp only [imprimaturlaw06_Of.j7]
  rw [if_neg (by simp)]
  exact copy2 K P (by omega) (by omega)
theorem of_fin (l : List Int) (hl : l.length < 17592186044416) (K P : List Int) (h : Inv K P) (hn : K.length = max 1 (min l.length 12)) (i : Int) :
  Ex (fun k => imprimaturlaw06_Of.j1 k l K P i false) (OfPost l) := by
 by_cases h0 : (l.length : Int) > 0
 ·refine Ex.st (of_j7 l hl K P h hn ((Int.tmod (rd l 0) 3) == 0)) (fun k => ?_)
  simp only [imprimaturlaw06_Of.j1]
  rw [if_neg (by simp), if_pos h0, if_pos (by omega)]
 ·refine Ex.st (of_j7 l hl K P h hn false) (fun k => ?_)
  simp only [imprimaturlaw06_Of.j1]
  rw [if_neg (by simp), if_neg h0]
def Next (l : List Int) (i : Nat) : Prop := ∀ K P : List Int, Inv K P → K.length = i + 1 → Ex (fun k => imprimaturlaw06_Of.l0 k l K P ((i + 1 : Nat) : Int)) (OfPost l)
theorem of_l1 (l : List Int) (i : Nat) (hi1 : i < l.length) (hi : i < 12) (K P : List Int) (h : Inv K P) (hn : K.length = i) (p : Int) (hp0 : -1 ≤ p) (hp1 : p < K.length) (hp : p = -1 ∨ solidB (rd K p) = true) (next : Next l i) :
  ∀ (d j : Nat) (x : Int), j + d = P.length → 1 ≤ x → x ≤ 4 → (3 ≤ x → p ≠ -1 ∧ rd K p = 1 ∧ ∃ m, m < K.length ∧ P.getD m 0 = p ∧ solidB (K.getD m 0) = true) →
   Ex (fun k => imprimaturlaw06_Of.l1 k l K P (i : Int) p x (P.length : Int) (j : Int)) (OfPost l) := by
 have hP := h.1
 intro d
 induction d with
 | zero =>
  intro j x hj hx1 hx4 hx
  refine Ex.st (next (K ++ [x]) (P ++ [p]) (h.app hx1 hx4 hp0 hp1 hp hx) (by simp; omega)) (fun k => ?_)
  simp only [imprimaturlaw06_Of.l1]
  rw [if_neg (by omega), if_pos (by omega), if_pos (by omega), w1 i (by omega)]
 | succ d ih =>
  intro j x hj hx1 hx4 hx
  have same := ih (j + 1) x (by omega) hx1 hx4 hx
  have hw := w1 j (by omega)
  by_cases c1 : P.getD j 0 = p
  ·by_cases c2 : K.getD j 0 ≤ 2
   ·by_cases c3 : p ≥ 0
    ·by_cases c4 : rd K p = 1
     ·have hv := Int.emod_nonneg (wrap64 (Int.tdiv (rd l (i : Int)) 96)) (show (2 : Int) ≠ 0 by omega)
      have hv' := Int.emod_lt_of_pos (wrap64 (Int.tdiv (rd l (i : Int)) 96)) (show (0 : Int) < 2 by omega)
      obtain ⟨v, hev⟩ : ∃ v, wrap64 (Int.tdiv (rd l (i : Int)) 96) % 2 = v := ⟨_, rfl⟩
      rw [hev] at hv hv'
      obtain ⟨a1, _⟩ := okS_iff.1 (h.2.2.1 j (by omega))
      refine Ex.st (ih (j + 1) (3 + v) (by omega) (by omega) (by omega) (fun _ => ⟨by omega, c4, j, by omega, c1, solidB_iff.2 (by omega)⟩)) (fun k => ?_)
      simp only [imprimaturlaw06_Of.l1]
      rw [if_pos (by omega), if_pos (by omega), if_pos (by omega), rd_nat, if_pos c1, if_pos (by omega), rd_nat, if_pos c2, if_pos c3, if_pos c3, if_pos (by omega), if_pos c4, if_pos (by omega), if_pos (by omega), within_f _ _ (by omega) (by omega), Option.bind_some, hev, w64 (x := 3 + v) (by omega) (by omega), hw]
     ·refine Ex.st same (fun k => ?_)
      simp only [imprimaturlaw06_Of.l1]
      rw [if_pos (by omega), if_pos (by omega), if_pos (by omega), rd_nat, if_pos c1, if_pos (by omega), rd_nat, if_pos c2, if_pos c3, if_pos c3, if_pos (by omega), if_neg c4, hw]
    ·refine Ex.st same (fun k => ?_)
     simp only [imprimaturlaw06_Of.l1]
     rw [if_pos (by omega), if_pos (by omega), if_pos (by omega), rd_nat, if_pos c1, if_pos (by omega), rd_nat, if_pos c2, if_neg c3, hw]
   ·refine Ex.st same (fun k => ?_)
    simp only [imprimaturlaw06_Of.l1]
    rw [if_pos (by omega), if_pos (by omega), if_pos (by omega), rd_nat, if_pos c1, if_pos (by omega), rd_nat, if_neg c2, hw]
  ·refine Ex.st same (fun k => ?_)
   simp only [imprimaturlaw06_Of.l1]
   rw [if_pos (by omega), if_pos (by omega), if_pos (by omega), rd_nat, if_neg c1, hw]
theorem of_j3 (l : List Int) (i : Nat) (hi1 : i < l.length) (hi : i < 12) (K P : List Int) (h : Inv K P) (hn : K.length = i) (p : Int) (hp0 : -1 ≤ p) (hp1 : p < K.length) (hp : p = -1 ∨ solidB (rd K p) = true) (next : Next l i) :
  Ex (fun k => imprimaturlaw06_Of.j3 k l K P (i : Int) p) (OfPost l) := by
 have hP := h.1
 have hw := w1 i (by omega)
 obtain ⟨t, ht⟩ : ∃ t, wrap64 (Int.tdiv (rd l (i : Int)) 16) % 6 = t := ⟨_, rfl⟩
 have j5 : ∀ b : Bool, Ex (fun k => imprimaturlaw06_Of.j5 k l K P (i : Int) p 1 b) (OfPost l) := by
  intro b
  cases b with
  | true =>
   refine Ex.st (of_l1 l i hi1 hi K P h hn p hp0 hp1 hp next P.length 0 1 (by omega) (by omega) (by omega) (fun h => by omega)) (fun k => ?_)
   simp only [imprimaturlaw06_Of.j5]
   rw [if_pos trivial]; rfl
  | false =>
   refine Ex.st (next (K ++ [1]) (P ++ [p]) (h.app (by omega) (by omega) hp0 hp1 hp (fun h => by omega)) (by simp; omega)) (fun k => ?_)
   simp only [imprimaturlaw06_Of.j5]
   rw [if_neg (by simp), if_pos (by omega), if_pos (by omega), hw]
 have j4 : ∀ b : Bool, Ex (fun k => imprimaturlaw06_Of.j4 k l K P (i : Int) p 1 t b) (OfPost l) := by
  intro b
  cases b with
  | true =>
   refine Ex.st (next (K ++ [2]) (P ++ [p]) (h.app (by omega) (by omega) hp0 hp1 hp (fun h => by omega)) (by simp; omega)) (fun k => ?_)
   simp only [imprimaturlaw06_Of.j4]
   rw [if_pos trivial, if_pos (by omega), if_pos (by omega), hw]
  | false =>
   by_cases h2 : t = 2
   ·refine Ex.st (j5 (t == 2)) (fun k => ?_)
    simp only [imprimaturlaw06_Of.j4]
    rw [if_neg (by simp), if_pos h2]
   ·refine Ex.st (j5 (t == 3)) (fun k => ?_)
    simp only [imprimaturlaw06_Of.j4]
    rw [if_neg (by simp), if_neg h2]
 by_cases h0 : t = 0
 ·refine Ex.st (j4 (t == 0)) (fun k => ?_)
  simp only [imprimaturlaw06_Of.j3]
  rw [if_pos (by omega), if_pos (by omega), within_f _ _ (by omega) (by omega), Option.bind_some, ht, if_pos h0]
 ·refine Ex.st (j4 (t == 1)) (fun k => ?_)
  simp only [imprimaturlaw06_Of.j3]
  rw [if_pos (by omega), if_pos (by omega), within_f _ _ (by omega) (by omega), Option.bind_some, ht, if_neg h0]
theorem of_l0 (l : List Int) (hl : l.length < 17592186044416) : ∀ (d i : Nat) (K P : List Int), Inv K P → K.length = i → i ≤ max 1 (min l.length 12) → i + d = max 1 (min l.length 12) →
  Ex (fun k => imprimaturlaw06_Of.l0 k l K P (i : Int)) (OfPost l) := by
 intro d
 induction d with
 | zero =>
  intro i K P h hn hi hd
  refine Ex.st (of_fin l hl K P h (by omega) (i : Int)) (fun k => ?_)
  simp only [imprimaturlaw06_Of.l0]
  by_cases hlt : (i : Int) < (l.length : Int)
  ·rw [if_pos hlt, decide_eq_false (by omega)]
  ·rw [if_neg hlt]
 | succ d ih =>
  intro i K P h hn hi hd
  have h1 := h.2.1
  have next : Next l i := fun K' P' h' hn' => ih (i + 1) K' P' h' hn' (by omega) (by omega)
  obtain ⟨v, hv⟩ : ∃ v, rd l (i : Int) % ((i + 1 : Nat) : Int) = v := ⟨_, rfl⟩
  have hv0 := Int.emod_nonneg (rd l (i : Int)) (show ((i + 1 : Nat) : Int) ≠ 0 by omega)
  have hv1 := Int.emod_lt_of_pos (rd l (i : Int)) (show 0 < ((i + 1 : Nat) : Int) by omega)
  rw [hv] at hv0 hv1
  have hwv : wrap64 (v - 1) = v - 1 := w64 (by omega) (by omega)
  have j2 : ∀ b : Bool, (b = false → v - 1 = -1 ∨ solidB (rd K (v - 1)) = true) → Ex (fun k => imprimaturlaw06_Of.j2 k l K P (i : Int) (v - 1) b) (OfPost l) := by
   intro b hb
   cases b with
   | true =>
    refine Ex.st (of_j3 l i (by omega) (by omega) K P h hn (-1) (by omega) (by omega) (.inl rfl) next) (fun k => ?_)
    simp only [imprimaturlaw06_Of.j2]
    rw [if_pos trivial]
   | false =>
    refine Ex.st (of_j3 l i (by omega) (by omega) K P h hn (v - 1) (by omega) (by omega) (hb rfl) next) (fun k => ?_)
    simp only [imprimaturlaw06_Of.j2]
    rw [if_neg (by simp)]
  have j1 : Ex (fun k => imprimaturlaw06_Of.j1 k l K P (i : Int) true) (OfPost l) := by
   by_cases hc : v - 1 ≥ 0
   ·refine Ex.st (j2 (decide (rd K (v - 1) ≥ 3)) (fun hb => ?_)) (fun k => ?_)
    ·have h3 := of_decide_eq_false hb
     right
     obtain ⟨a, _⟩ := okS_iff.1 (h.2.2.1 (v - 1).toNat (by omega))
     exact solidB_iff.2 (by unfold rd at h3 ⊢; omega)
    ·simp only [imprimaturlaw06_Of.j1]
     rw [if_pos trivial, if_pos (by omega), if_pos (by omega), w1 i (by omega), within_f _ _ (by omega) (by omega), Option.bind_some, hv, hwv, if_pos hc, if_pos hc, if_pos (by omega)]
   ·refine Ex.st (j2 false (fun _ => .inl (by omega))) (fun k => ?_)
    simp only [imprimaturlaw06_Of.j1]
    rw [if_pos trivial, if_pos (by omega), if_pos (by omega), w1 i (by omega), within_f _ _ (by omega) (by omega), Option.bind_some, hv, hwv, if_neg hc]
  refine Ex.st j1 (fun k => ?_)
  simp only [imprimaturlaw06_Of.l0]
  rw [if_pos (by omega), decide_eq_true (by omega)]
theorem Inv.one : Inv [1] [-1] := by
 refine ⟨rfl, by simp, fun i hi => ?_, fun i hi h3 => ?_, rfl, rfl⟩
 ·obtain rfl : i = 0 := by simp at hi; exact hi
  decide
 ·obtain rfl : i = 0 := by simp at hi; exact hi
  simp at h3
theorem of_f (l : List Int) (hl : l.length < 17592186044416) : Ex (fun k => imprimaturlaw06_Of.f k l) (OfPost l) := by
 unfold imprimaturlaw06_Of.f
 exact of_l0 l hl (max 1 (min l.length 12) - 1) 1 [1] [-1] Inv.one rfl (by omega) (by omega)
end Go.Proofs.Ytnomeokicfpidaa.M
