-- merged by pack.py out of: YtnomeokicfpidaaOfL YtnomeokicfpidaaPureEnterStart
import Derived.Test.YtnomeokicfpidaaKEnterStart31
import Derived.Test.YtnomeokicfpidaaKEnterStart24
import Derived.Test.YtnomeokicfpidaaKEnterStart25
import Derived.Test.YtnomeokicfpidaaKEnterStart29
import Derived.Test.YtnomeokicfpidaaKEnterStart30
/-
  The loops of the printed Of. Conditions: a list shorter than 2^40.
-/
namespace Go.Proofs.Ytnomeokicfpidaa.M
open Go.RowKit Go.Proofs.YtnomeokicfpidaaW.PrintWords Go.Proofs.YtnomeokicfpidaaW.PrintLast Go.Proofs.YtnomeokicfpidaaW.PrintMore Go.Proofs.Ytnomeokicfpidaa.Q
set_option linter.unusedVariables false

theorem of_l2 (l : List Int) (hl : l.length < 17592186044416) (P : List Int) : ∀ (d i : Nat) (K : List Int), i + d = K.length → Inv2 K P i → K.length = max 1 (min l.length 12) →
    Ex (fun k => imprimaturlaw06_Of.l2 k K P (P.length : Int) (i : Int)) (OfPost l) := by
  intro d
  induction d with
  | zero =>
    intro i K hi h hn
    refine ⟨(K, P, K, P), Ev.ret (fun k => ?_), h.done (by omega), rfl, rfl, hn⟩
    have := h.1
    simp only [imprimaturlaw06_Of.l2]
    rw [if_neg (by omega)]
    exact copy2 K P (by omega) (by omega)
  | succ d ih =>
    intro i K hi h hn
    have hP := h.1
    by_cases hc : P.getD i 0 = 0 ∧ 3 ≤ K.getD i 0
    · have ih' := ih (i + 1) (K.set i 1) (by rw [List.length_set]; omega) (h.turn (by omega) hc.1 hc.2) (by rw [List.length_set]; exact hn)
      refine Ex.st ih' (fun k => ?_)
      simp only [imprimaturlaw06_Of.l2]
      rw [if_pos (by omega), if_pos (by omega), if_pos (by omega), rd_nat, if_pos hc.1, if_pos (by omega), rd_nat, if_pos (show K.getD i 0 ≥ 3 from hc.2), w1 i (by omega), Int.toNat_natCast]
    · refine Ex.st (ih (i + 1) K (by omega) (h.keep hc) hn) (fun k => ?_)
      simp only [imprimaturlaw06_Of.l2]
      rw [if_pos (by omega), if_pos (by omega), if_pos (by omega), rd_nat, rd_nat, w1 i (by omega)]
      by_cases h0 : P.getD i 0 = 0
      · rw [if_pos h0, if_pos (by omega), if_neg (fun h3 => hc ⟨h0, h3⟩)]
      · rw [if_neg h0]

theorem of_j7 (l : List Int) (hl : l.length < 17592186044416) (K P : List Int) (h : Inv K P) (hn : K.length = max 1 (min l.length 12)) (b : Bool) :
    Ex (fun k => imprimaturlaw06_Of.j7 k K P b) (OfPost l) := by
  have h1 := h.2.1
  have hP := h.1
  cases b with
  | true =>
    refine Ex.st (of_l2 l hl P (K.set 0 2).length 0 (K.set 0 2) (by omega) (Inv2.start h) (by rw [List.length_set]; exact hn)) (fun k => ?_)
    simp only [imprimaturlaw06_Of.j7]
    rw [if_pos trivial, if_pos (by omega)]; rfl
  | false =>
    refine ⟨(K, P, K, P), Ev.ret (fun k => ?_), h, rfl, rfl, hn⟩
    simp only [imprimaturlaw06_Of.j7]
    rw [if_neg (by simp)]
    exact copy2 K P (by omega) (by omega)

theorem of_fin (l : List Int) (hl : l.length < 17592186044416) (K P : List Int) (h : Inv K P) (hn : K.length = max 1 (min l.length 12)) (i : Int) :
    Ex (fun k => imprimaturlaw06_Of.j1 k l K P i false) (OfPost l) := by
  by_cases h0 : (l.length : Int) > 0
  · refine Ex.st (of_j7 l hl K P h hn ((Int.tmod (rd l 0) 3) == 0)) (fun k => ?_)
    simp only [imprimaturlaw06_Of.j1]
    rw [if_neg (by simp), if_pos h0, if_pos (by omega)]
  · refine Ex.st (of_j7 l hl K P h hn false) (fun k => ?_)
    simp only [imprimaturlaw06_Of.j1]
    rw [if_neg (by simp), if_neg h0]

/-- What a round of the great loop asks of those that follow. -/
def Next (l : List Int) (i : Nat) : Prop := ∀ K P : List Int, Inv K P → K.length = i + 1 → Ex (fun k => imprimaturlaw06_Of.l0 k l K P ((i + 1 : Nat) : Int)) (OfPost l)

theorem of_l1 (l : List Int) (i : Nat) (hi1 : i < l.length) (hi : i < 12) (K P : List Int) (h : Inv K P) (hn : K.length = i) (p : Int) (hp0 : -1 ≤ p) (hp1 : p < K.length) (hp : p = -1 ∨ solidB (rd K p) = true) (next : Next l i) :
    ∀ (d j : Nat) (x : Int), j + d = P.length → 1 ≤ x → x ≤ 4 → (3 ≤ x → p ≠ -1 ∧ rd K p = 1 ∧ ∃ m, m < K.length ∧ P.getD m 0 = p ∧ solidB (K.getD m 0) = true) →
      Ex (fun k => imprimaturlaw06_Of.l1 k l K P (i : Int) p x (P.length : Int) (j : Int)) (OfPost l) := by
  have hP := h.1
  intro d
  induction d with
  | zero =>
    intro j x hj hx1 hx4 hx
    refine Ex.st (next (K ++ [x]) (P ++ [p]) (h.app hx1 hx4 hp0 hp1 hp hx) (by simp; omega)) (fun k => ?_)
    simp only [imprimaturlaw06_Of.l1]
    rw [if_neg (by omega), if_pos (by omega), if_pos (by omega), w1 i (by omega)]
  | succ d ih =>
    intro j x hj hx1 hx4 hx
    have same := ih (j + 1) x (by omega) hx1 hx4 hx
    have hw := w1 j (by omega)
    by_cases c1 : P.getD j 0 = p
    · by_cases c2 : K.getD j 0 ≤ 2
      · by_cases c3 : p ≥ 0
        · by_cases c4 : rd K p = 1
          · have hv := Int.emod_nonneg (wrap64 (Int.tdiv (rd l (i : Int)) 96)) (show (2 : Int) ≠ 0 by omega)
            have hv' := Int.emod_lt_of_pos (wrap64 (Int.tdiv (rd l (i : Int)) 96)) (show (0 : Int) < 2 by omega)
            obtain ⟨v, hev⟩ : ∃ v, wrap64 (Int.tdiv (rd l (i : Int)) 96) % 2 = v := ⟨_, rfl⟩
            rw [hev] at hv hv'
            obtain ⟨a1, _⟩ := okS_iff.1 (h.2.2.1 j (by omega))
            refine Ex.st (ih (j + 1) (3 + v) (by omega) (by omega) (by omega) (fun _ => ⟨by omega, c4, j, by omega, c1, solidB_iff.2 (by omega)⟩)) (fun k => ?_)
            simp only [imprimaturlaw06_Of.l1]
            rw [if_pos (by omega), if_pos (by omega), if_pos (by omega), rd_nat, if_pos c1, if_pos (by omega), rd_nat, if_pos c2, if_pos c3, if_pos c3, if_pos (by omega), if_pos c4, if_pos (by omega), if_pos (by omega), within_f _ _ (by omega) (by omega), Option.bind_some, hev, w64 (x := 3 + v) (by omega) (by omega), hw]
          · refine Ex.st same (fun k => ?_)
            simp only [imprimaturlaw06_Of.l1]
            rw [if_pos (by omega), if_pos (by omega), if_pos (by omega), rd_nat, if_pos c1, if_pos (by omega), rd_nat, if_pos c2, if_pos c3, if_pos c3, if_pos (by omega), if_neg c4, hw]
        · refine Ex.st same (fun k => ?_)
          simp only [imprimaturlaw06_Of.l1]
          rw [if_pos (by omega), if_pos (by omega), if_pos (by omega), rd_nat, if_pos c1, if_pos (by omega), rd_nat, if_pos c2, if_neg c3, hw]
      · refine Ex.st same (fun k => ?_)
        simp only [imprimaturlaw06_Of.l1]
        rw [if_pos (by omega), if_pos (by omega), if_pos (by omega), rd_nat, if_pos c1, if_pos (by omega), rd_nat, if_neg c2, hw]
    · refine Ex.st same (fun k => ?_)
      simp only [imprimaturlaw06_Of.l1]
      rw [if_pos (by omega), if_pos (by omega), if_pos (by omega), rd_nat, if_neg c1, hw]

theorem of_j3 (l : List Int) (i : Nat) (hi1 : i < l.length) (hi : i < 12) (K P : List Int) (h : Inv K P) (hn : K.length = i) (p : Int) (hp0 : -1 ≤ p) (hp1 : p < K.length) (hp : p = -1 ∨ solidB (rd K p) = true) (next : Next l i) :
    Ex (fun k => imprimaturlaw06_Of.j3 k l K P (i : Int) p) (OfPost l) := by
  have hP := h.1
  have hw := w1 i (by omega)
  obtain ⟨t, ht⟩ : ∃ t, wrap64 (Int.tdiv (rd l (i : Int)) 16) % 6 = t := ⟨_, rfl⟩
  have j5 : ∀ b : Bool, Ex (fun k => imprimaturlaw06_Of.j5 k l K P (i : Int) p 1 b) (OfPost l) := by
    intro b
    cases b with
    | true =>
      refine Ex.st (of_l1 l i hi1 hi K P h hn p hp0 hp1 hp next P.length 0 1 (by omega) (by omega) (by omega) (fun h => by omega)) (fun k => ?_)
      simp only [imprimaturlaw06_Of.j5]
      rw [if_pos trivial]; rfl
    | false =>
      refine Ex.st (next (K ++ [1]) (P ++ [p]) (h.app (by omega) (by omega) hp0 hp1 hp (fun h => by omega)) (by simp; omega)) (fun k => ?_)
      simp only [imprimaturlaw06_Of.j5]
      rw [if_neg (by simp), if_pos (by omega), if_pos (by omega), hw]
  have j4 : ∀ b : Bool, Ex (fun k => imprimaturlaw06_Of.j4 k l K P (i : Int) p 1 t b) (OfPost l) := by
    intro b
    cases b with
    | true =>
      refine Ex.st (next (K ++ [2]) (P ++ [p]) (h.app (by omega) (by omega) hp0 hp1 hp (fun h => by omega)) (by simp; omega)) (fun k => ?_)
      simp only [imprimaturlaw06_Of.j4]
      rw [if_pos trivial, if_pos (by omega), if_pos (by omega), hw]
    | false =>
      by_cases h2 : t = 2
      · refine Ex.st (j5 (t == 2)) (fun k => ?_)
        simp only [imprimaturlaw06_Of.j4]
        rw [if_neg (by simp), if_pos h2]
      · refine Ex.st (j5 (t == 3)) (fun k => ?_)
        simp only [imprimaturlaw06_Of.j4]
        rw [if_neg (by simp), if_neg h2]
  by_cases h0 : t = 0
  · refine Ex.st (j4 (t == 0)) (fun k => ?_)
    simp only [imprimaturlaw06_Of.j3]
    rw [if_pos (by omega), if_pos (by omega), within_f _ _ (by omega) (by omega), Option.bind_some, ht, if_pos h0]
  · refine Ex.st (j4 (t == 1)) (fun k => ?_)
    simp only [imprimaturlaw06_Of.j3]
    rw [if_pos (by omega), if_pos (by omega), within_f _ _ (by omega) (by omega), Option.bind_some, ht, if_neg h0]

theorem of_l0 (l : List Int) (hl : l.length < 17592186044416) : ∀ (d i : Nat) (K P : List Int), Inv K P → K.length = i → i ≤ max 1 (min l.length 12) → i + d = max 1 (min l.length 12) →
    Ex (fun k => imprimaturlaw06_Of.l0 k l K P (i : Int)) (OfPost l) := by
  intro d
  induction d with
  | zero =>
    intro i K P h hn hi hd
    refine Ex.st (of_fin l hl K P h (by omega) (i : Int)) (fun k => ?_)
    simp only [imprimaturlaw06_Of.l0]
    by_cases hlt : (i : Int) < (l.length : Int)
    · rw [if_pos hlt, decide_eq_false (by omega)]
    · rw [if_neg hlt]
  | succ d ih =>
    intro i K P h hn hi hd
    have h1 := h.2.1
    have next : Next l i := fun K' P' h' hn' => ih (i + 1) K' P' h' hn' (by omega) (by omega)
    obtain ⟨v, hv⟩ : ∃ v, rd l (i : Int) % ((i + 1 : Nat) : Int) = v := ⟨_, rfl⟩
    have hv0 := Int.emod_nonneg (rd l (i : Int)) (show ((i + 1 : Nat) : Int) ≠ 0 by omega)
    have hv1 := Int.emod_lt_of_pos (rd l (i : Int)) (show 0 < ((i + 1 : Nat) : Int) by omega)
    rw [hv] at hv0 hv1
    have hwv : wrap64 (v - 1) = v - 1 := w64 (by omega) (by omega)
    have j2 : ∀ b : Bool, (b = false → v - 1 = -1 ∨ solidB (rd K (v - 1)) = true) → Ex (fun k => imprimaturlaw06_Of.j2 k l K P (i : Int) (v - 1) b) (OfPost l) := by
      intro b hb
      cases b with
      | true =>
        refine Ex.st (of_j3 l i (by omega) (by omega) K P h hn (-1) (by omega) (by omega) (.inl rfl) next) (fun k => ?_)
        simp only [imprimaturlaw06_Of.j2]
        rw [if_pos trivial]
      | false =>
        refine Ex.st (of_j3 l i (by omega) (by omega) K P h hn (v - 1) (by omega) (by omega) (hb rfl) next) (fun k => ?_)
        simp only [imprimaturlaw06_Of.j2]
        rw [if_neg (by simp)]
    have j1 : Ex (fun k => imprimaturlaw06_Of.j1 k l K P (i : Int) true) (OfPost l) := by
      by_cases hc : v - 1 ≥ 0
      · refine Ex.st (j2 (decide (rd K (v - 1) ≥ 3)) (fun hb => ?_)) (fun k => ?_)
        · have h3 := of_decide_eq_false hb
          right
          obtain ⟨a, _⟩ := okS_iff.1 (h.2.2.1 (v - 1).toNat (by omega))
          exact solidB_iff.2 (by unfold rd at h3 ⊢; omega)
        · simp only [imprimaturlaw06_Of.j1]
          rw [if_pos trivial, if_pos (by omega), if_pos (by omega), w1 i (by omega), within_f _ _ (by omega) (by omega), Option.bind_some, hv, hwv, if_pos hc, if_pos hc, if_pos (by omega)]
      · refine Ex.st (j2 false (fun _ => .inl (by omega))) (fun k => ?_)
        simp only [imprimaturlaw06_Of.j1]
        rw [if_pos trivial, if_pos (by omega), if_pos (by omega), w1 i (by omega), within_f _ _ (by omega) (by omega), Option.bind_some, hv, hwv, if_neg hc]
    refine Ex.st j1 (fun k => ?_)
    simp only [imprimaturlaw06_Of.l0]
    rw [if_pos (by omega), decide_eq_true (by omega)]

theorem Inv.one : Inv [1] [-1] := by
  refine ⟨rfl, by simp, fun i hi => ?_, fun i hi h3 => ?_, rfl, rfl⟩
  · obtain rfl : i = 0 := by simp at hi; exact hi
    decide
  · obtain rfl : i = 0 := by simp at hi; exact hi
    simp at h3
theorem of_f (l : List Int) (hl : l.length < 17592186044416) : Ex (fun k => imprimaturlaw06_Of.f k l) (OfPost l) := by
  unfold imprimaturlaw06_Of.f
  exact of_l0 l hl (max 1 (min l.length 12) - 1) 1 [1] [-1] Inv.one rfl (by omega) (by omega)
end Go.Proofs.Ytnomeokicfpidaa.M
/-
  The law EnterStart, pure: what is entered at first is a configuration in which each state that has states is in its first one. Conditions: those of the given statement.
-/
namespace Go.Proofs.Ytnomeokicfpidaa.Pure
open Go.RowKit Go.Proofs.YtnomeokicfpidaaW.PrintWords Go.Proofs.YtnomeokicfpidaaW.PrintLast Go.Proofs.YtnomeokicfpidaaW.PrintMore Go.Proofs.Ytnomeokicfpidaa.Q Go.Proofs.Ytnomeokicfpidaa.M Go.Proofs.Ytnomeokicfpidaa.EW
set_option linter.unusedVariables false

theorem BL.len {K P : List Int} {a : Int} {R : List Int} (h : BL K P a R) : R.length ≤ K.length + 1 := pigeon h.nd (fun x hx => by have := h.el x hx; omega)
theorem inS_init {K P : List Int} (hO : Ok K P) : ∀ (f : Nat) (a : Int), 0 ≤ a → a < K.length → (K.length : Int) - a ≤ f → ∀ x ∈ inS K P f a, rd K x = 1 → kids P x ≠ [] → initial K P x ∈ inS K P f a := by
  intro f
  induction f with
  | zero => intro a h0 h1 h2; omega
  | succ f ih =>
    intro a h0 h1 h2 x hx hk hne
    rw [inS] at hx ⊢
    by_cases h2 : rd K a = 2
    · rw [if_pos h2] at hx ⊢
      rcases List.mem_cons.1 hx with rfl | hx
      · omega
      · obtain ⟨k, hk1, hk2⟩ := List.mem_flatMap.1 hx
        obtain ⟨k0, k1, k2, _⟩ := hO.kid hk1
        exact List.mem_cons_of_mem _ (List.mem_flatMap.2 ⟨k, hk1, ih k k0 k1 (by omega) x hk2 hk hne⟩)
    · rw [if_neg h2] at hx ⊢
      by_cases hi : 0 ≤ initial K P a
      · rw [if_pos hi] at hx ⊢
        rcases initial_cases K P a with e | ⟨e, e'⟩
        · omega
        · obtain ⟨k0, k1, k2, _⟩ := hO.kid e
          obtain ⟨R, e1, _⟩ := inS_BL hO f _ k0 k1 (by omega) e'
          rcases List.mem_cons.1 hx with rfl | hx
          · rw [e1]; simp
          · exact List.mem_cons_of_mem _ (ih _ k0 k1 (by omega) x hx hk hne)
      · rw [if_neg hi] at hx ⊢
        rcases List.mem_cons.1 hx with rfl | hx
        · have := hO.2.2.2.1 x hne; omega
        · cases hx

theorem start_l0 {K P : List Int} (hO : Ok K P) (s : Nat) (hs : s < 4294967296) (hinit : ∀ x : Nat, x < K.length → s.testBit x = true → K.getD x 0 = 1 → kids P (x : Int) ≠ [] → s.testBit (initial K P (x : Int)).toNat = true) : ∀ (d i : Nat), i + d = K.length →
    Ev (fun k => imprimaturlaw07_EnterStart.l0 k (s : Int) (K.length : Int) (i : Int) K P) true := by
  have hn := hO.1
  have h24 := hO.2.2.2.2
  intro d
  induction d with
  | zero =>
    intro i hi
    refine Ev.step (fun k => imprimaturlaw07_EnterStart.l0.eq_2 (s : Int) (K.length : Int) (i : Int) K P k) ?_
    exact Ev.neg (by omega) (Ev.bd wakes7_f (Ev.now _))
  | succ d ih =>
    intro i hi
    refine Ev.step (fun k => imprimaturlaw07_EnterStart.l0.eq_2 (s : Int) (K.length : Int) (i : Int) K P k) ?_
    rw [u64w i (by omega), w1 i (by omega), bit1 s i hs]
    refine Ev.pos (by omega) (Ev.pos (by omega) ?_)
    by_cases hb : s.testBit i = true
    · refine Ev.pos (by rw [if_pos hb]) (Ev.pos (by omega) (Ev.pos (by omega) ?_))
      rw [rd_nat]
      by_cases hk : K.getD i 0 = 1
      · refine Ev.pos hk (Ev.bd (Kids_f K P i (by omega)) ?_)
        by_cases hne : kids P (i : Int) = []
        · exact Ev.neg (by rw [hne]; simp) (ih (i + 1) (by omega))
        · refine Ev.pos (by have := List.length_pos_iff.2 hne; omega) (Ev.bd (Initial_f K P i hn (by omega)) ?_)
          have h0 := hO.2.2.2.1 _ hne
          have hb' := hinit i (by omega) hb hk hne
          have hlt : initial K P (i : Int) < K.length := by
            rcases initial_cases K P (i : Int) with e | ⟨e, _⟩
            · omega
            · exact (hO.kid e).2.1
          obtain ⟨m, hm⟩ : ∃ m : Nat, initial K P (i : Int) = (m : Int) := ⟨(initial K P (i : Int)).toNat, by omega⟩
          rw [hm] at hb' hlt ⊢
          rw [Int.toNat_natCast] at hb'
          rw [u64w m (by omega), bit1 s m hs, if_pos hb']
          exact Ev.pos (by omega) (Ev.neg (by omega) (ih (i + 1) (by omega)))
      · exact Ev.neg hk (ih (i + 1) (by omega))
    · exact Ev.neg (by rw [if_neg hb]; simp) (ih (i + 1) (by omega))

theorem EnterStart : imprimaturlaw07_EnterStart.Pure := by
  intro l0 _ _ _
  refine Ev.rounds (r := true) ?_
  unfold imprimaturlaw07_EnterStart.f
  obtain ⟨⟨K, P, K', P'⟩, hE, hI, e1, e2, hlen⟩ := of_f l0 (by omega)
  simp only at hI hlen e1 e2
  subst e1 e2
  refine Ev.bd hE ?_
  simp only
  have hn := hI.1
  have h12 : K'.length ≤ 12 := by omega
  have hO := hI.ok (by omega)
  have hp : ∀ j, j < K'.length → -1 ≤ P'.getD j 0 ∧ P'.getD j 0 < K'.length := fun j hj => by
    have := hI.tree j (by omega)
    omega
  obtain ⟨hB, R, hR⟩ := start_BL hO
  have hl := BL.len hB
  have hst : enter_Start.f K' P' = some (startL K' P') := by
    unfold enter_Start.f
    rw [if_pos ⟨hI.valid (by omega), by omega⟩]
  have h32 : ∀ x ∈ startL K' P', 0 ≤ x ∧ x < 32 := fun x hx => by have := hB.el x hx; omega
  have hbs := bs_lt h32
  have htb : ∀ j : Nat, (bs (startL K' P') 0).testBit j = true ↔ (j : Int) ∈ startL K' P' := fun j => by
    rw [tb_bs (fun x hx => (h32 x hx).1)]; simp
  have hpr : properB K' P' (bs (startL K' P') 0) = true := (proper_LP hI _).2 (BL.LP hO hB htb)
  rw [hst]
  refine Ev.som (Ev.bd (bits_f _ (by omega) h32) (Ev.bd (Proper_f K' P' hn (by omega) hp _ hbs) (Ev.pos hpr ?_)))
  have hpos : 0 < (startL K' P').length := by rw [hR]; simp
  refine Ev.neg (by omega) (Ev.pos (by omega) (Ev.bd (Initial_f K' P' _ hn (by omega)) ?_))
  have hhd : (rd (startL K' P') 0 != initial K' P' (-1)) = false := by rw [hR]; exact bne_eq_false_iff_eq.2 rfl
  rw [hhd]
  refine Ev.st (start_l0 hO _ hbs (fun x hx hb hk hne => ?_) K'.length 0 (by omega)) (fun k => ?_)
  · have h0 := hO.2.2.2.1 _ hne
    rw [htb] at hb
    rw [htb, show (((initial K' P' (x : Int)).toNat : Nat) : Int) = initial K' P' (x : Int) by omega]
    unfold startL at hb ⊢
    by_cases hi : 0 ≤ initial K' P' (-1)
    · rw [if_pos hi] at hb ⊢
      rcases initial_cases K' P' (-1) with e | ⟨e, _⟩
      · omega
      · obtain ⟨k0, k1, _⟩ := hO.kid e
        exact inS_init hO K'.length _ k0 k1 (by omega) _ hb (by rw [rd_nat]; exact hk) hne
    · rw [if_neg hi] at hb; cases hb
  · simp only [imprimaturlaw07_EnterStart.j0]
    rw [if_neg (by simp)]; rfl
end Go.Proofs.Ytnomeokicfpidaa.Pure
