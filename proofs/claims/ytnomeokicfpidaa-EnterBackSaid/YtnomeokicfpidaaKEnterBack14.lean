-- merged and slimmed by slim.py (a program of this repo)
import Derived.Test.YtnomeokicfpidaaKEnterBack13
import Derived.Test.YtnomeokicfpidaaKEnterBack0
import Derived.Test.YtnomeokicfpidaaKEnterBack10
import Derived.Test.YtnomeokicfpidaaKEnterBack11
import Derived.Deep.Matrix
import Derived.Test.YtnomeokicfpidaaWMore
import Derived.Test.YtnomeokicfpidaaWNEv
namespace Go.Proofs.Ytnomeokicfpidaa.Pure
open Go.RowKit Go.Proofs.YtnomeokicfpidaaW.PrintWords Go.Proofs.YtnomeokicfpidaaW.PrintLast Go.Proofs.YtnomeokicfpidaaW.PrintMore Go.Proofs.Ytnomeokicfpidaa.Q Go.Proofs.Ytnomeokicfpidaa.M Go.Proofs.Ytnomeokicfpidaa.EW
set_option linter.unusedVariables false
section
variable {K P : List Int} (hI : Inv K P) (h12 : K.length ≤ 12) (c : Nat) (hc : c < 4294967296) (hLP : LP K P (-1) c)
include hI h12 hc hLP
theorem all_bits : ∀ j : Nat, (j : Int) ∈ belowL K P (c : Int) (-1) ↔ c.testBit j = true := by
 intro j
 have hO := hI.ok (by omega)
 have hT := hO.tree
 have hn := hO.1
 rw [mem_belowN hO hc]
 constructor
 ·rintro ⟨j', e, _, _, h, _⟩
  obtain rfl : j = j' := by omega
  exact h
 ·intro h
  have hj := (hLP.mem j h).1
  exact ⟨j, rfl, hj, by omega, h, Un.top hT (j + 1) (j : Int) (by omega) (by omega) (by omega)⟩
theorem mem_ok {past m : List Int} (hPQ : PQ K P past) (hm : m.length = K.length) (hmi : ∀ i : Nat, i < K.length → m.getD i 0 = remS K P (c : Int) (belowL K P (c : Int) (-1)).reverse past i) :
  PastOk K P m ∧ ∀ i : Nat, i < K.length → c.testBit i = true → remB K P (i : Int) = true → belowL K P (wasS m (i : Int)) (i : Int) = belowL K P (c : Int) (i : Int) := by
 have hO := hI.ok (by omega)
 have hn := hO.1
 have main : ∀ i : Nat, i < K.length → c.testBit i = true → remB K P (i : Int) = true → belowL K P (wasS m (i : Int)) (i : Int) = belowL K P (c : Int) (i : Int) := by
  intro i hi hb hr
  have hr32 : ∀ x ∈ belowL K P (c : Int) (i : Int), 0 ≤ x ∧ x < 32 := fun x hx => by
   obtain ⟨j, rfl, hj, _⟩ := mem_below.1 hx; omega
  rw [wasS_nat, if_pos (by omega), hmi i hi]
  unfold remS
  rw [if_pos ⟨List.mem_reverse.2 ((all_bits hI h12 c hc hLP i).2 hb), hr⟩]
  refine below_congr (fun j hj e u => ?_)
  rw [inB_nat _ j (bs_lt hr32), inB_nat c j hc, Bool.eq_iff_iff, tb_bs (fun x hx => (hr32 x hx).1), Nat.zero_testBit, mem_belowN hO hc]
  simp only [Bool.false_eq_true, false_or]
  constructor
  ·rintro ⟨j', e', _, _, h, _⟩
   obtain rfl : j = j' := by omega
   exact h
  ·intro h
   exact ⟨j, rfl, hj, e, h, (unB_iff hO.tree (by omega) (by omega)).1 u⟩
 refine ⟨fun i h0 h1 => ?_, main⟩
 obtain ⟨i, rfl⟩ : ∃ j : Nat, i = (j : Int) := ⟨i.toNat, by omega⟩
 by_cases g : c.testBit i = true ∧ remB K P (i : Int) = true
 ·rw [main i (by omega) g.1 g.2]
  exact .inr (LP.below hO hLP hc (.inr ⟨h0, by rw [Int.toNat_natCast]; exact g.1⟩))
 ·have e : wasS m (i : Int) = wasS past (i : Int) := by
   rw [wasS_nat, if_pos (by omega), hmi i (by omega)]
   unfold remS
   rw [if_neg (fun h => g ⟨(all_bits hI h12 c hc hLP i).1 (List.mem_reverse.1 h.1), h.2⟩)]
  rw [e]
  exact hPQ.ok hO _ h0 h1
theorem come_back {m : List Int} (hQ : PastOk K P m) (hM : ∀ i : Nat, i < K.length → c.testBit i = true → remB K P (i : Int) = true → belowL K P (wasS m (i : Int)) (i : Int) = belowL K P (c : Int) (i : Int))
  {h : Int} (h0 : 0 ≤ h) (h1 : h < K.length) (h3 : 3 ≤ rd K h) {p : Nat} (hp : rd P h = (p : Int)) (hb : c.testBit p = true) :
  BL K P (-1) (enterL K P m (-1) h) ∧ (p : Int) ∈ enterL K P m (-1) h ∧ (∀ i : Nat, i < K.length → P.getD i 0 = (p : Int) → (c.testBit i = true ↔ (i : Int) ∈ enterL K P m (-1) h)) ∧
  (rd K h = 4 → ∀ i : Nat, i < K.length → (i : Int) ≠ p → Un P (i : Int) p → (c.testBit i = true ↔ (i : Int) ∈ enterL K P m (-1) h)) := by
 have hO := hI.ok (by omega)
 have hT := hO.tree
 have hn := hO.1
 have hs : ¬ solidB (rd K h) = true := fun e => by have := solidB_iff.1 e; omega
 obtain ⟨p0, p1, p2, p3⟩ := hist_par hO h0 h1 hs
 rw [hp] at p0 p1 p2 p3
 have hpl : p < K.length := by omega
 have hhk : h ∈ kids P (p : Int) := kids_of_rd h0 (by omega) hp
 have hrem : remB K P (p : Int) = true := by
  unfold remB
  rw [List.any_eq_true]
  exact ⟨h, hhk, decide_eq_true h3⟩
 have htop : ∀ x : Int, -1 ≤ x → x < K.length → Un P x (-1) := fun x a b => Un.top hT (K.length) x b a (by omega)
 obtain ⟨hB, hsub⟩ := enter_BL hO hQ h0 h1 (d := -1) rfl (htop h (by omega) h1) (by omega)
 have hA := inA_hist hO hQ h0 h1 hs
 rw [hp] at hA
 have hl : BL K P (p : Int) (belowL K P (c : Int) (p : Int)) := LP.below hO hLP hc (.inr ⟨by omega, by rw [Int.toNat_natCast]; exact hb⟩)
 have ho : one K (p : Int) = true := (one_of (by omega)).2 p2
 have eA : inA K P m h = backR K P (inS K P K.length) (belowL K P (c : Int) (p : Int)) (p : Int) (rd K h == 4) := by
  unfold inA
  have := rd_range hO h0 h1
  rw [hp, hM p hpl hb hrem]
  by_cases e : rd K h = 3
  ·rw [if_pos e, e]; rfl
  ·rw [if_neg e, if_pos (by omega), show (rd K h == 4) = true from beq_iff_eq.2 (by omega)]
 obtain ⟨k, hk1, hk2, hk3⟩ : ∃ k ∈ kids P (p : Int), k ∈ belowL K P (c : Int) (p : Int) ∧ ∀ m ∈ kids P (p : Int), m ∈ belowL K P (c : Int) (p : Int) → m = k := by
  have := hl.own
  unfold hold at this
  rw [if_pos ho] at this
  exact this.resolve_left p3
 obtain ⟨k0, kl, ks, _⟩ := hl.el k hk2
 have hkE : k ∈ enterL K P m (-1) h := by
  refine hsub k ?_
  rw [eA]
  unfold backR
  by_cases d : (rd K h == 4) = true ∧ belowL K P (c : Int) (p : Int) ≠ []
  ·rw [if_pos d]; exact hk2
  ·rw [if_neg d]
   cases hf : (belowL K P (c : Int) (p : Int)).find? (fun k => decide (rd P k = (p : Int)) && decide (rd K k ≤ 2)) with
   | some x =>
    have hx := List.find?_some hf
    have hxm := List.mem_of_find?_eq_some hf
    rw [Bool.and_eq_true, decide_eq_true_eq, decide_eq_true_eq] at hx
    obtain ⟨x0, x1, x2, _⟩ := hl.el x hxm
    have : x = k := hk3 x (kids_of_rd x0 (by omega) hx.1) hxm
    subst this
    obtain ⟨R, e, _⟩ := inS_BL hO K.length x x0 x1 (by omega) x2
    show x ∈ inS K P K.length x
    rw [e]; exact List.mem_cons_self ..
   | none =>
    have := List.find?_eq_none.1 hf k hk2
    rw [(mem_kids_rd hk1).2.2] at this
    have := solidB_iff.1 ks
    simp at *
    omega
 have hpE : (p : Int) ∈ enterL K P m (-1) h := by
  have := hB.par hkE
  rw [(mem_kids_rd hk1).2.2] at this
  exact this.resolve_left (by omega)
 obtain ⟨k', hk1', hk2', hk3'⟩ : ∃ k ∈ kids P (p : Int), k ∈ enterL K P m (-1) h ∧ ∀ x ∈ kids P (p : Int), x ∈ enterL K P m (-1) h → x = k := by
  have := hB.hel _ hpE
  unfold hold at this
  rw [if_pos ho] at this
  exact this.resolve_left p3
 have hkk : k = k' := hk3' k hk1 hkE
 have cl : ∀ i : Nat, i < K.length → (i : Int) ≠ p → Un P (i : Int) p → (c.testBit i = true ↔ (i : Int) ∈ belowL K P (c : Int) (p : Int)) := fun i hi hne hu => by
  rw [mem_belowN hO hc]
  constructor
  ·intro hb; exact ⟨i, rfl, hi, hne, hb, hu⟩
  ·rintro ⟨j, e, _, _, hb, _⟩
   obtain rfl : i = j := by omega
   exact hb
 refine ⟨hB, hpE, fun i hi hpi => ?_, fun h4 i hi hne hu => ?_⟩
 ·have hik : (i : Int) ∈ kids P (p : Int) := mem_kids.2 ⟨i, rfl, by omega, hpi⟩
  have hti := hT i (by omega)
  rw [cl i hi (by omega) (Un.kid1 hik)]
  constructor
  ·intro hm; rw [hk3 _ hik hm]; exact hkE
  ·intro hm; rw [hk3' _ hik hm, ← hkk]; exact hk2
 ·have e4 : inA K P m h = belowL K P (c : Int) (p : Int) := by
   rw [eA, show (rd K h == 4) = true from beq_iff_eq.2 h4]
   unfold backR
   rw [if_pos ⟨rfl, fun e => by rw [e] at hk2; cases hk2⟩]
  rw [cl i hi hne hu]
  constructor
  ·intro hm; exact hsub _ (by rw [e4]; exact hm)
  ·intro hm
   have hsub' : ∀ x ∈ belowL K P (c : Int) (p : Int), x ∈ enterL K P m (-1) h := fun x hx => hsub x (by rw [e4]; exact hx)
   exact BL.same hO hl hB hsub' (htop p (by omega) (by omega)) (K.length) (i : Int) (by omega) hm hu hne
omit hLP in
theorem back_l1 {h : Int} (h0 : 0 ≤ h) (h1 : h < K.length) (h3 : 3 ≤ rd K h) {p : Nat} (hpl : p < K.length) (y : Nat) (hy : y < 4294967296) (hyp : y.testBit p = true)
  (e3 : ∀ i : Nat, i < K.length → P.getD i 0 = (p : Int) → (c.testBit i = y.testBit i)) (e4 : rd K h = 4 → ∀ i : Nat, i < K.length → (i : Int) ≠ p → Un P (i : Int) p → (c.testBit i = y.testBit i)) :
  ∀ (d i : Nat), i + d = K.length → Ev (fun k => imprimaturlaw07_EnterBack.l1 k (c : Int) h (p : Int) (y : Int) (K.length : Int) (i : Int) K P) true := by
 have hO := hI.ok (by omega)
 have hT := hO.tree
 have hn := hO.1
 intro d
 induction d with
 | zero =>
  intro i hi
  refine Ev.step (fun k => imprimaturlaw07_EnterBack.l1.eq_2 ..) ?_
  rw [u64w p (by omega), bit1 y p hy, if_pos hyp]
  exact Ev.neg (by omega) (Ev.pos (by omega) (Ev.pos rfl (Ev.bd wakes7_f (Ev.now _))))
 | succ d ih =>
  intro i hi
  have nxt := ih (i + 1) (by omega)
  have skip : Ev (fun k => imprimaturlaw07_EnterBack.j3 k (c : Int) h (p : Int) (y : Int) (i : Int) (K.length : Int) (i : Int) true K P) true := by
   refine Ev.step (fun k => imprimaturlaw07_EnterBack.j3.eq_2 ..) ?_
   rw [w1 i (by omega)]
   exact Ev.pos rfl nxt
  refine Ev.step (fun k => imprimaturlaw07_EnterBack.l1.eq_2 ..) ?_
  refine Ev.pos (by omega) ?_
  by_cases e : (i : Int) = (p : Int)
  ·exact Ev.pos e skip
  ·refine Ev.neg e (Ev.bd (Under_f hn hT (by omega) (by omega) (by omega) (by omega)) ?_)
   by_cases u : unB P (i : Int) p = true
   ·rw [u]
    have hu := (unB_iff hT (by omega) (by omega)).1 u
    refine Ev.step (fun k => imprimaturlaw07_EnterBack.j3.eq_2 ..) ?_
    rw [w1 i (by omega), u64w i (by omega), bit1 c i hc, bit1 y i hy, rd_nat P i]
    refine Ev.neg (by simp) (Ev.pos (by omega) (Ev.pos h0 (Ev.pos h1 ?_)))
    by_cases h4 : rd K h = 4
    ·refine Ev.pos h4 (Ev.pos (by rw [e4 h4 i (by omega) e hu]) (Ev.pos (by omega) (Ev.pos (by omega) ?_)))
     exact Ev.iff (fun _ => nxt) (fun _ => nxt)
    ·refine Ev.neg h4 (Ev.pos (by omega) (Ev.pos (by omega) ?_))
     exact Ev.iff (fun hp => Ev.pos (by rw [e3 i (by omega) hp]) nxt) (fun _ => nxt)
   ·rw [eq_false_of_ne_true u]
    exact skip
theorem back_tail {h : Int} (h0 : 0 ≤ h) (h1 : h < K.length) (h3 : 3 ≤ rd K h) {p : Nat} (hp : rd P h = (p : Int)) (hb : c.testBit p = true) {m : List Int} (hQ : PastOk K P m) (hM : ∀ i : Nat, i < K.length → c.testBit i = true → remB K P (i : Int) = true → belowL K P (wasS m (i : Int)) (i : Int) = belowL K P (c : Int) (i : Int)) :
  Ev (fun k => imprimaturlaw07_EnterBack.j1 k (c : Int) h (p : Int) m false K P) true := by
 have hO := hI.ok (by omega)
 have hpl := (hLP.mem p hb).1
 obtain ⟨hB, b1, b2, b3⟩ := come_back hI h12 c hc hLP hQ hM h0 h1 h3 hp hb
 have hl := BL.len hB
 have hE : enter_Enter.f K P (-1) h m = some (enterL K P m (-1) h) := by
  unfold enter_Enter.f
  rw [if_pos ⟨hI.valid (by omega), h0, h1, by omega⟩]
 have h32 : ∀ x ∈ enterL K P m (-1) h, 0 ≤ x ∧ x < 32 := fun x hx => by have := hB.el x hx; omega
 have htb : ∀ j : Nat, (bs (enterL K P m (-1) h) 0).testBit j = true ↔ (j : Int) ∈ enterL K P m (-1) h := fun j => by
  rw [tb_bs (fun x hx => (h32 x hx).1)]; simp
 refine Ev.step (fun k => imprimaturlaw07_EnterBack.j1.eq_2 ..) ?_
 rw [hE]
 refine Ev.neg (by simp) (Ev.som (Ev.bd (bits_f _ (by omega) h32) ?_))
 refine back_l1 hI h12 c hc h0 h1 h3 hpl _ (bs_lt h32) ((htb p).2 b1) (fun i hi e => ?_) (fun h4 i hi hne hu => ?_) K.length 0 (by omega)
 ·rw [Bool.eq_iff_iff, htb]; exact b2 i hi e
 ·rw [Bool.eq_iff_iff, htb]; exact b3 h4 i hi hne hu
theorem back_l0 (a2 : Int) (l3 : List (List Int)) : ∀ (d i : Nat) (acc : List Int), i + d = K.length → acc.length ≤ i → (∀ x ∈ acc, 0 ≤ x ∧ x < K.length ∧ 3 ≤ rd K x ∧ ∃ p : Nat, rd P x = (p : Int) ∧ c.testBit p = true) →
  Ev (fun k => imprimaturlaw07_EnterBack.l0 k a2 l3 (c : Int) acc (K.length : Int) (i : Int) K P K P) true := by
 have hO := hI.ok (by omega)
 have hT := hO.tree
 have hn := hO.1
 intro d
 induction d with
 | zero =>
  intro i acc hi ha hacc
  refine Ev.step (fun k => imprimaturlaw07_EnterBack.l0.eq_2 ..) ?_
  refine Ev.neg (by omega) ?_
  by_cases e : acc = []
  ·subst e
   exact Ev.pos (by simp) (Ev.bd wakes7_f (Ev.now _))
  ·have hpos := List.length_pos_iff.2 e
   refine Ev.neg (by omega) ?_
   rw [within_f a2 _ (by omega) (by omega)]
   have t0 := Int.emod_nonneg a2 (show (acc.length : Int) ≠ 0 by omega)
   have t1 := Int.emod_lt_of_pos a2 (show 0 < (acc.length : Int) by omega)
   generalize a2 % (acc.length : Int) = t at t0 t1
   have hm : rd acc t ∈ acc := by
    unfold rd
    rw [List.getD_eq_getElem?_getD, List.getElem?_eq_getElem (by omega)]; exact List.getElem_mem _
   obtain ⟨h0, h1, h3, p, hp, hb⟩ := hacc _ hm
   refine Ev.som ?_
   generalize rd acc t = h at h0 h1 h3 hp
   rw [hp]
   obtain ⟨past, hpa, hPQ⟩ := past_f hI (by omega) l3
   have hbl := below_len K P (c : Int) (-1)
   have hlr : ∀ x ∈ (belowL K P (c : Int) (-1)).reverse, 0 ≤ x ∧ x < K.length := fun x hx => by
    obtain ⟨j, rfl, hj, _⟩ := mem_below.1 (List.mem_reverse.1 hx); omega
   obtain ⟨m, hm1, hm2, hm3⟩ := Remember_f hO (c : Int) (belowL K P (c : Int) (-1)).reverse past (by rw [List.length_reverse]; omega) hlr hPQ.1
   obtain ⟨hQ, hM⟩ := mem_ok hI h12 c hc hLP hPQ hm2 hm3
   refine Ev.pos t0 (Ev.pos t1 (Ev.pos h0 (Ev.pos (by omega) (Ev.bd (Leave_f hO (c : Int) (-1) (by omega) (by omega)) (Ev.bd hpa (Ev.bd hm1 (Ev.pos (by omega) (Ev.bd (bits_f _ (by rw [List.length_reverse]; omega) (fun x hx => by have := hlr x hx; omega)) ?_))))))))
   have e2 : ((bs (belowL K P (c : Int) (-1)).reverse 0 : Nat) : Int) = (c : Int) := by
    congr 1
    refine Nat.eq_of_testBit_eq (fun j => ?_)
    rw [Bool.eq_iff_iff, tb_bs (fun x hx => (hlr x hx).1), Nat.zero_testBit, List.mem_reverse, all_bits hI h12 c hc hLP]
    simp
   rw [e2, show ((c : Int) != (c : Int)) = false from bne_eq_false_iff_eq.2 rfl]
   exact back_tail hI h12 c hc hLP h0 h1 h3 hp hb hQ hM
 | succ d ih =>
  intro i acc hi ha hacc
  have nxt := ih (i + 1) acc (by omega) (by omega) hacc
  have hr := rd_range hO (a := (i : Int)) (by omega) (by omega)
  refine Ev.step (fun k => imprimaturlaw07_EnterBack.l0.eq_2 ..) ?_
  rw [w1 i (by omega)]
  refine Ev.pos (by omega) (Ev.pos (by omega) (Ev.pos (by omega) ?_))
  by_cases h3 : rd K (i : Int) ≥ 3
  ·have hs : ¬ solidB (rd K (i : Int)) = true := fun e => by have := solidB_iff.1 e; omega
   obtain ⟨p0, p1, _, _⟩ := hist_par hO (z := (i : Int)) (by omega) (by omega) hs
   obtain ⟨p, hp⟩ : ∃ p : Nat, rd P (i : Int) = (p : Int) := ⟨(rd P (i : Int)).toNat, by omega⟩
   rw [hp, u64w p (by omega), bit1 c p hc]
   refine Ev.pos h3 (Ev.pos (by omega) (Ev.pos (by omega) ?_))
   by_cases hb : c.testBit p = true
   ·refine Ev.pos (by rw [if_pos hb]) (Ev.pos (by omega) ?_)
    refine ih (i + 1) (acc ++ [(i : Int)]) (by omega) (by simp; omega) (fun x hx => ?_)
    rcases List.mem_append.1 hx with hx | hx
    ·exact hacc x hx
    ·rw [List.mem_singleton.1 hx]
     exact ⟨by omega, by omega, h3, p, hp, hb⟩
   ·exact Ev.neg (by rw [if_neg hb]; simp) nxt
  ·exact Ev.neg h3 nxt
end
theorem EnterBack (l0 l1 : List Int) (a2 : Int) (l3 : List (List Int)) (_ : l0.length ≤ maxLen) (hl0 : l0.length * 8 ≤ 140737488351232) (_ : ∀ x ∈ l0, (Lit.int .i64 x).wf = true) (_ : l1.length ≤ maxLen) (_ : l1.length * 8 ≤ 140737488351232) (_ : ∀ x ∈ l1, (Lit.int .i64 x).wf = true) (_ : (Lit.int .i64 a2).wf = true) (_ : l3.length ≤ maxLen) (_ : ∀ z ∈ l3, z.length ≤ maxLen ∧ ∀ n ∈ z, (Lit.int .i64 n).wf = true) : ∃ k, Q.imprimaturlaw07_EnterBack.f k l0 l1 a2 l3 = some true := by
 refine Ev.rounds (r := true) ?_
 unfold imprimaturlaw07_EnterBack.f
 obtain ⟨⟨K, P, K', P'⟩, hE, hI, e1, e2, hlen⟩ := of_f l0 (by omega)
 simp only at hI hlen e1 e2
 subst e1 e2
 refine Ev.bd hE ?_
 simp only
 have h12 : K'.length ≤ 12 := by omega
 obtain ⟨_, hc, c, rfl, hcl, hLP⟩ := config_f hI (by omega) l1
 have h32 : (2 : Nat) ^ K'.length ≤ 2 ^ 12 := Nat.pow_le_pow_right (by decide) h12
 have h32' : (2 : Nat) ^ K'.length ≤ 4096 := h32
 clear h32
 refine Ev.bd hc ?_
 exact back_l0 hI h12 c (by omega) hLP a2 l3 K'.length 0 [] (by omega) (by simp) (fun x hx => by cases hx)
end Go.Proofs.Ytnomeokicfpidaa.Pure
namespace Go.Proofs.YtnomeokicfpidaaW.PrintWords
open Go.RowKit Go.ChangeShapes Go.WideShapes Go.Deep
set_option linter.unusedVariables false
theorem getD_map_range {α : Type} (f : Nat → α) (d : α) {n j : Nat} (h : j < n) : ((List.range n).map f)[j]? = some (f j) := by
 rw [List.getElem?_map, List.getElem?_range h]; rfl
theorem open_rows_C {H : Type} {enc : TypeId × Value → H} {P : Program} {w : World} {base : Nat} {held : Bool} {t e q : TypeId} {k : IntKind} {fuel : Nat} {A : Option Addr} {len cap : Nat} {x : DataW H × List MemPlace}
  (ht : P.underlying t = some (.slice e)) (he : P.underlying e = some (.slice q)) (hq : P.underlying q = some (.int k))
  (ce : P.cellsOf e = 1) (cq : P.cellsOf q = 1) (h : DataW.trod enc P w base (fun _ => true) held fuel t (Value.slice A len cap).cells.toList = some x) :
  ∃ l : List (List Int), len = l.length ∧ l.length ≤ cap ∧ l.length ≤ maxLen ∧ Kd.C (Kd.slice q (Kd.int k)) w A l.length l ∧ (∀ z ∈ l, z.length ≤ maxLen ∧ ∀ n ∈ z, (Lit.int k n).wf = true) := by
 rcases open_int_rows ht he hq ce cq h with ⟨hcs, _⟩ | ⟨a, len', cap', B, L, C, Z, hcs, _, hl, hm, _, hr⟩
 ·simp [Value.cells] at hcs
  obtain ⟨rfl, rfl, rfl⟩ := hcs
  exact ⟨[], rfl, by simp, by simp [maxLen], ⟨rfl, by simp, fun h => by simp at h⟩, by simp⟩
 ·simp [Value.cells] at hcs
  obtain ⟨rfl, rfl, rfl⟩ := hcs
  have hlen : ((List.range len).map (fun r => (Z r).take (L r))).length = len := by simp
  refine ⟨(List.range len).map (fun r => (Z r).take (L r)), hlen.symm, by rw [hlen]; exact hl, by rw [hlen]; omega, ?_, ?_⟩
  ·rw [hlen]
   refine ⟨hlen, by unfold maxLen at hm; omega, fun _ => ⟨a, rfl, fun j p hj => ?_⟩⟩
   have hjl : j < len := by
    have := (List.getElem?_eq_some_iff.1 hj).1
    rwa [hlen] at this
   rw [getD_map_range _ ([] : List Int) hjl] at hj
   obtain rfl := Option.some.inj hj
   obtain ⟨h1, h2, h3, h4, h5, h6, h7⟩ := hr j (by omega)
   have hzl : ((Z j).take (L j)).length = L j := by rw [List.length_take]; omega
   refine ⟨[.slice (B j) (L j) (C j)], rfl, ⟨B j, C j, by rw [hzl], by omega, ?_⟩, fun i u hu => ?_⟩
   ·rw [hzl]
    refine ⟨hzl, by unfold maxLen at h3; omega, fun hpos => ?_⟩
    cases hB : B j with
    | none => have := h6 hB; omega
    | some b =>
     refine ⟨b, rfl, fun i p hi => ?_⟩
     have hil : i < L j := by
      have := (List.getElem?_eq_some_iff.1 hi).1
      rwa [hzl] at this
     refine ⟨[.int k p], rfl, rfl, fun i' u hu => ?_⟩
     have hc := (h7 b hB).2 i (by omega)
     rw [List.getElem?_take, if_pos hil] at hi
     rw [List.getD_eq_getElem?_getD, hi] at hc
     cases i' with
     | zero =>
      have : u = .int k p := (Option.some.inj hu).symm
      rw [this, Nat.add_zero, show i * (Kd.int k).sz = i from Nat.mul_one i]; exact hc
     | succ i' => simp at hu
   ·cases i with
    | zero =>
     have : u = .slice (B j) (L j) (C j) := (Option.some.inj hu).symm
     rw [this, Nat.add_zero, show j * (Kd.slice q (Kd.int k)).sz = j from Nat.mul_one j]; exact h1
    | succ i => simp at hu
  ·intro z hz
   obtain ⟨j, hj, rfl⟩ := List.mem_map.1 hz
   rw [List.mem_range] at hj
   obtain ⟨h1, h2, h3, h4, h5, h6, h7⟩ := hr j (by omega)
   exact ⟨by rw [List.length_take]; omega, fun n hn => h5 n (List.mem_of_mem_take hn)⟩
end Go.Proofs.YtnomeokicfpidaaW.PrintWords
