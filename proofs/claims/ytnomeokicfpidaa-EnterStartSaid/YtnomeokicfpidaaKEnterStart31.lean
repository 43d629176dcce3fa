-- merged by pack.py out of: YtnomeokicfpidaaQx9 YtnomeokicfpidaaKeep YtnomeokicfpidaaOf YtnomeokicfpidaaBits YtnomeokicfpidaaProp YtnomeokicfpidaaConfs YtnomeokicfpidaaBel YtnomeokicfpidaaBel2 YtnomeokicfpidaaPropLP YtnomeokicfpidaaConfs2 YtnomeokicfpidaaCfg YtnomeokicfpidaaQx23 YtnomeokicfpidaaBel3
import Derived.Test.YtnomeokicfpidaaKEnterStart24
import Derived.Test.YtnomeokicfpidaaKEnterStart26
import Derived.Test.YtnomeokicfpidaaKEnterStart27
import Derived.Test.YtnomeokicfpidaaKEnterStart28
import Derived.Laws.BitsLemmas
import Derived.Test.YtnomeokicfpidaaKEnterStart29
-- printed by myprint.py: a program of this repo over the kit's print
namespace Go.Proofs.Ytnomeokicfpidaa.Q
open Go.RowKit Go.Proofs.YtnomeokicfpidaaW.PrintWords Go.Proofs.YtnomeokicfpidaaW.PrintLast Go.Proofs.YtnomeokicfpidaaW.PrintMore
attribute [local go_sem] max2_int min2_int max_two min_two max_three min_three max_four min_four   -- for this text's walks alone
set_option linter.unusedVariables false
set_option linter.unusedSimpArgs false

/-! ### imprimaturlaw06_wakes: function 17 -/
def imprimaturlaw06_wakes.f (k : Nat)  : Option (Bool) := (shape_Proper.f k (([1] : List Int)) (([(-1)] : List Int)) 1).bind fun t107 => (some t107)
theorem imprimaturlaw06_wakes.mono : ∀ k, LeO (imprimaturlaw06_wakes.f k ) (imprimaturlaw06_wakes.f (k + 1) ) := by
  intro  k
  unfold imprimaturlaw06_wakes.f
  repeat' first
      | (with_reducible exact shape_Proper.mono _ _ _ _)
      | (with_reducible exact LeO.refl _)
      | (with_reducible exact LeO.none _)
      | (with_reducible refine LeO.ite ?_ ?_)
      | (with_reducible refine LeO.bind ?_ (fun _ => ?_))
      | exact shape_Proper.mono _ _ _ _
      | exact LeO.none _
      | refine LeO.ite ?_ ?_
      | refine LeO.bind ?_ (fun _ => ?_)
set_option maxHeartbeats 8000000 in
set_option maxRecDepth 100000 in
theorem imprimaturlaw06_wakes.calls (k : Nat)  (r : Bool) (w : World) (h : imprimaturlaw06_wakes.f k  = some r) :
    Calls Try.prog 17 #[] w fun e w' => e = .returned (.bool r) ∧ Below w.heap.size w w' := by
  have hu24 := Try.underlying24
  have HB := Aside0.mk (Below.refl w.heap.size w)
  have H : ((shape_Proper.f k (([1] : List Int)) (([(-1)] : List Int)) 1).bind fun t107 => (some t107)) = some r := h
  clear h
  obtain ⟨y101, hy101⟩ : ∃ y_ : List Int, y_ = (([1] : List Int)) := ⟨_, rfl⟩
  replace H : ((shape_Proper.f k y101 (([(-1)] : List Int)) 1).bind fun t107 => (some t107)) = some r := by first | (rw [hy101]; with_reducible exact H) | (have H2_ := (Option.bind_some _ _).symm.trans H; rw [hy101]; with_reducible exact H2_) | (have H2_ := (Option.bind_some _ _).symm.trans H; with_reducible exact H2_) | with_reducible exact H | (rw [hy101]; exact H) | exact H
  have Ny101 := Aside0.mk hy101
  clear hy101
  obtain ⟨y104, hy104⟩ : ∃ y_ : List Int, y_ = (([(-1)] : List Int)) := ⟨_, rfl⟩
  replace H : ((shape_Proper.f k y101 y104 1).bind fun t107 => (some t107)) = some r := by first | (rw [hy104]; with_reducible exact H) | (have H2_ := (Option.bind_some _ _).symm.trans H; rw [hy104]; with_reducible exact H2_) | (have H2_ := (Option.bind_some _ _).symm.trans H; with_reducible exact H2_) | with_reducible exact H | (rw [hy104]; exact H) | exact H
  have Ny104 := Aside0.mk hy104
  clear hy104
  replace H := Option.bind_eq_some_iff.mp H
  obtain ⟨t107, A10, H⟩ := H
  replace H : (some t107) = some r := H
  have A1 := Aside0.mk A10
  clear A10
  obtain rfl := Option.some.inj H
  go_enter Try.func17, Try.ntmps17
  go_wp2_with (first | ((with_reducible refine gate_dst (N := 1) rfl ?_); refine Kd.R_lit (Kd.int .i64) _ 3 ?hg (N := 1) ?hd (xs := ([1] : List Int)) (inner := [.int .i64 1]) (ok := fun _ => True) (okp := fun _ => True) ?hr ?hp (fun _ hk => hk) trivial (Below.refl _ _) (Nat.le_refl _) (by simp) ?_; (case hd => rfl); (case hg => rfl); (case hr => first | (go_simp; done) | (go_simp; rfl)); (case hp => exact (Reps.one (show Kd.M (Kd.int .i64) _ _ _ 1 [.int .i64 1] from rfl) (Reps.none _ _))); intro v102 w2 ho3 hb hg_ hnew_; clear hg_ hnew_; (first | rw [← Ny101.out] at ho3 | (simp only [Int.reduceToNat] at ho3; rw [← Ny101.out] at ho3)); have n0_ := Aside0.mk (Kd.R_lower ho3 (below_size (by repeat (first | (with_reducible first | exact HB.out | apply below_alloc | apply pw_below_drewN | apply below_drew1) | exact HB.out)))); have n1_ := Aside0.mk (below_step (by repeat (first | (with_reducible first | exact HB.out | apply below_alloc | apply pw_below_drewN | apply below_drew1) | exact HB.out)) hb); clear HB; have HO103 := n0_; have HB := n1_; clear n0_ n1_; clear hb ho3) | ((with_reducible refine gate_dst (N := 2) rfl ?_); refine Kd.R_lit (Kd.int .i64) _ 3 ?hg (N := 2) ?hd (xs := ([(-1)] : List Int)) (inner := [.int .i64 (-1)]) (ok := fun _ => True) (okp := fun _ => True) ?hr ?hp (fun _ hk => hk) trivial (Below.refl _ _) (Nat.le_refl _) (by simp) ?_; (case hd => rfl); (case hg => rfl); (case hr => first | (go_simp; done) | (go_simp; rfl)); (case hp => exact (Reps.one (show Kd.M (Kd.int .i64) _ _ _ (-1) [.int .i64 (-1)] from rfl) (Reps.none _ _))); intro v105 w4 ho5 hb hg_ hnew_; clear hg_ hnew_; (first | rw [← Ny104.out] at ho5 | (simp only [Int.reduceToNat] at ho5; rw [← Ny104.out] at ho5)); have n0_ := Aside0.mk (Kd.R_elder' (by (with_reducible repeat (first | apply Kd.R_alloc | apply Kd.R_drewN | apply Kd.R_drew)); exact HO103.out) (Kd.R_base ho5) hb); have n1_ := Aside0.mk (Kd.R_lower (Kd.R_new' ho5 (Kd.R_lt (by (with_reducible repeat (first | apply Kd.R_alloc | apply Kd.R_drewN | apply Kd.R_drew)); exact HO103.out))) (below_size (by repeat (first | (with_reducible first | exact HB.out | apply below_alloc | apply pw_below_drewN | apply below_drew1) | exact HB.out)))); have n2_ := Aside0.mk (below_step (by repeat (first | (with_reducible first | exact HB.out | apply below_alloc | apply pw_below_drewN | apply below_drew1) | exact HB.out)) hb); clear HO103; clear HB; have HO103 := n0_; have HO106 := n1_; have HB := n2_; clear n0_ n1_ n2_; clear hb ho5; obtain ⟨Ao6, co6, eo6⟩ := Kd.R_slice HO106.out; subst eo6; obtain ⟨Ao7, co7, eo7⟩ := Kd.R_slice HO103.out; subst eo7) | ((with_reducible refine gate_callee (f := 15) rfl ?_); refine goesL_ (some 4) rfl rfl Try.func15 (by kernel_rfl) rfl #[.agg #[.slice Ao7 y101.length co7, .slice Ao6 y104.length co6], .int .u32 1] rfl (by (try simp only [List.map_toArray, List.map_cons, List.map_nil]); first | done | rfl | (simp only [List.length_drop, List.length_take]; rfl)) ?_; (with_reducible refine (shape_Proper.calls k _ _ y101 _ _ y104 1 t107 _ ?side1 ?side2 ?side3 ?side4 A1.out).mono ?_); (case side1 => repeat (first | exact (Kd.R_reads' HO103.out).2.2 | (with_reducible refine Kd.C_alloc ?_ _) | (with_reducible refine Kd.C_drewN ?_ _) | (with_reducible refine Kd.C_drew ?_))); (case side2 => exact (Kd.R_reads' HO103.out).2.1); (case side3 => repeat (first | exact (Kd.R_reads' HO106.out).2.2 | (with_reducible refine Kd.C_alloc ?_ _) | (with_reducible refine Kd.C_drewN ?_ _) | (with_reducible refine Kd.C_drew ?_))); (case side4 => exact (Kd.R_reads' HO106.out).2.1); rintro e w8 ⟨rfl, hb⟩; refine ⟨_, rfl, ?_⟩; have n0_ := Aside0.mk (Kd.R_below (by (with_reducible repeat (first | apply Kd.R_alloc | apply Kd.R_drewN | apply Kd.R_drew)); exact HO103.out) hb); have n1_ := Aside0.mk (Kd.R_below (by (with_reducible repeat (first | apply Kd.R_alloc | apply Kd.R_drewN | apply Kd.R_drew)); exact HO106.out) hb); have n2_ := Aside0.mk (below_step (by repeat (first | (with_reducible first | exact HB.out | apply below_alloc | apply pw_below_drewN | apply below_drew1) | exact HB.out)) hb); clear HO103; clear HO106; clear HB; have HO103 := n0_; have HO106 := n1_; have HB := n2_; clear n0_ n1_ n2_; (try clear hb); (try clear hb2); (try clear hk); (try clear hi)))
  go_ret
  exact ⟨by first | rfl | (simp [errW_none, errW_some] <;> rfl) | (simp [*, errW_none, errW_some] <;> rfl), by repeat (first | (with_reducible first | exact HB.out | apply below_alloc | apply pw_below_drewN | apply below_drew1) | exact HB.out)⟩

end Go.Proofs.Ytnomeokicfpidaa.Q
/-
  What the printed helps of the statements answer: Within, Copy, Cut; the document's example (wakes of layer 6). Conditions: none beyond each lemma's own.
-/
namespace Go.Proofs.Ytnomeokicfpidaa.M
open Go.RowKit Go.Proofs.YtnomeokicfpidaaW.PrintWords Go.Proofs.YtnomeokicfpidaaW.PrintLast Go.Proofs.YtnomeokicfpidaaW.PrintMore Go.Proofs.Ytnomeokicfpidaa.Q
set_option linter.unusedVariables false

theorem within_f (a b : Int) (hb : 1 ≤ b) (hb' : b ≤ 4611686018427387904) : imprimaturkeep_Within.f a b = some (a % b) := by
  unfold imprimaturkeep_Within.f
  have h0 := Int.emod_nonneg a (show b ≠ 0 by omega)
  have h1 := Int.emod_lt_of_pos a (show 0 < b by omega)
  rw [if_neg (by omega), if_neg (by omega), Int.tmod_eq_emod]
  by_cases h : 0 ≤ a ∨ b ∣ a
  · rw [if_pos h, if_neg (by omega)]; simp
  · rw [if_neg h]
    have : a % b ≠ 0 := fun e => h (.inr (Int.dvd_of_emod_eq_zero e))
    rw [if_pos (by omega), w64 (by omega) (by omega)]
    congr 1; omega
theorem within_z (a b : Int) (hb : b < 1) : imprimaturkeep_Within.f a b = some 0 := by
  unfold imprimaturkeep_Within.f
  rw [if_pos hb]
theorem copy_f (l : List Int) (h : l.length < 17592186044416) : imprimaturkeep_Copy_int.f l = some l := by
  unfold imprimaturkeep_Copy_int.f
  rw [if_pos (by simpa using h)]; simp
theorem wakes6_f : Ev (fun k => imprimaturlaw06_wakes.f k) true := Ev.of (fun k => imprimaturlaw06_wakes.mono k) (k := 30) (by decide +kernel)
end Go.Proofs.Ytnomeokicfpidaa.M
/-
  What the statements' Of makes out of numbers: a shape that is valid, and the same for the reference. Conditions: a list shorter than 2^40.
-/
namespace Go.Proofs.Ytnomeokicfpidaa.M
open Go.RowKit Go.Proofs.YtnomeokicfpidaaW.PrintWords Go.Proofs.YtnomeokicfpidaaW.PrintLast Go.Proofs.YtnomeokicfpidaaW.PrintMore Go.Proofs.Ytnomeokicfpidaa.Q
set_option linter.unusedVariables false

/-- It comes to an answer of which Q holds. -/
def Ex {α : Type} (g : Nat → Option α) (Q : α → Prop) : Prop := ∃ r, Ev g r ∧ Q r
theorem Ex.st {α : Type} {g f : Nat → Option α} {Q : α → Prop} (h : Ex f Q) (e : ∀ k, g (k + 1) = f k) : Ex g Q := by
  obtain ⟨r, a, b⟩ := h
  exact ⟨r, Ev.st a e, b⟩
theorem Ex.iff {α : Type} {c : Prop} [Decidable c] {f g : Nat → Option α} {Q : α → Prop} (k : c → Ex f Q) (l : ¬ c → Ex g Q) : Ex (fun n => if c then f n else g n) Q := by
  by_cases h : c
  · simpa [h] using k h
  · simpa [h] using l h
theorem Ex.bd {α β : Type} {g : Nat → Option α} {f : Nat → α → Option β} {a : α} {Q : β → Prop} (h : Ev g a) (k : Ex (fun n => f n a) Q) : Ex (fun n => (g n).bind (fun x => f n x)) Q := by
  obtain ⟨r, x, y⟩ := k
  exact ⟨r, Ev.bd h x, y⟩

/-- A list of states, one by one: each is right by itself, and each that goes back stands behind a solid one of its parent. -/
def Inv (K P : List Int) : Prop := P.length = K.length ∧ 1 ≤ K.length ∧ (∀ i, i < K.length → okS K P i = true) ∧
  (∀ i, i < K.length → 3 ≤ K.getD i 0 → ∃ m, m < i ∧ P.getD m 0 = P.getD i 0 ∧ solidB (K.getD m 0) = true) ∧ P.getD 0 0 = -1 ∧ solidB (K.getD 0 0) = true

theorem getD_app_l {l m : List Int} {i : Nat} (h : i < l.length) : (l ++ m).getD i 0 = l.getD i 0 := by
  rw [List.getD_eq_getElem?_getD, List.getElem?_append_left h, ← List.getD_eq_getElem?_getD]
theorem getD_app_r {l : List Int} {x : Int} {i : Nat} (h : i = l.length) : (l ++ [x]).getD i 0 = x := by
  subst h; rw [List.getD_eq_getElem?_getD, List.getElem?_append_right (Nat.le_refl _)]; simp
theorem rd_app_l {l m : List Int} {p : Int} (h0 : 0 ≤ p) (h : p < l.length) : rd (l ++ m) p = rd l p := by
  unfold rd; exact getD_app_l (by omega)

theorem okS_app {K P : List Int} {k p : Int} (hn : P.length = K.length) {i : Nat} (hi : i < K.length) (h : okS K P i = true) : okS (K ++ [k]) (P ++ [p]) i = true := by
  obtain ⟨h1, h2, h3, h4, h5⟩ := okS_iff.1 h
  have eK : (K ++ [k]).getD i 0 = K.getD i 0 := getD_app_l hi
  have eP : (P ++ [p]).getD i 0 = P.getD i 0 := getD_app_l (by omega)
  refine okS_iff.2 ⟨by rw [eK]; exact h1, by rw [eK]; exact h2, by rw [eP]; exact h3, by rw [eP]; exact h4, ?_⟩
  rw [eP, eK]
  by_cases hp : P.getD i 0 = -1
  · rw [if_pos hp] at h5 ⊢; exact h5
  · rw [if_neg hp] at h5 ⊢
    rw [rd_app_l (by omega) (by omega)]; exact h5

theorem Inv.app {K P : List Int} {k p : Int} (h : Inv K P) (hk1 : 1 ≤ k) (hk4 : k ≤ 4) (hp0 : -1 ≤ p) (hp1 : p < K.length)
    (hp : p = -1 ∨ solidB (rd K p) = true) (hh : 3 ≤ k → p ≠ -1 ∧ rd K p = 1 ∧ ∃ m, m < K.length ∧ P.getD m 0 = p ∧ solidB (K.getD m 0) = true) : Inv (K ++ [k]) (P ++ [p]) := by
  obtain ⟨hn, h1, hok, hb, h0, hs⟩ := h
  refine ⟨by simp [hn], by simp, ?_, ?_, by rw [getD_app_l (by omega)]; exact h0, by rw [getD_app_l (by omega)]; exact hs⟩
  · intro i hi
    rw [List.length_append, List.length_singleton] at hi
    by_cases hl : i < K.length
    · exact okS_app hn hl (hok i hl)
    · obtain rfl : i = K.length := by omega
      have eK : (K ++ [k]).getD K.length 0 = k := getD_app_r rfl
      have eP : (P ++ [p]).getD K.length 0 = p := getD_app_r hn.symm
      refine okS_iff.2 ⟨by rw [eK]; exact hk1, by rw [eK]; exact hk4, by rw [eP]; exact hp0, by rw [eP]; exact hp1, ?_⟩
      rw [eK, eP]
      by_cases hq : p = -1
      · rw [if_pos hq]
        exact solidB_iff.2 (by
          by_cases h3 : 3 ≤ k
          · exact absurd hq (hh h3).1
          · omega)
      · rw [if_neg hq, rd_app_l (by omega) hp1]
        rcases hp with hp | hp
        · exact absurd hp hq
        · rw [hp, Bool.true_and]
          by_cases h3 : 3 ≤ k
          · rw [(hh h3).2.1]; simp
          · rw [solidB_iff.2 (by omega)]; rfl
  · intro i hi h3
    rw [List.length_append, List.length_singleton] at hi
    by_cases hl : i < K.length
    · rw [getD_app_l hl] at h3
      obtain ⟨m, a, b, c⟩ := hb i hl h3
      exact ⟨m, a, by rw [getD_app_l (by omega), getD_app_l (by omega)]; exact b, by rw [getD_app_l (by omega)]; exact c⟩
    · obtain rfl : i = K.length := by omega
      rw [getD_app_r rfl] at h3
      obtain ⟨_, _, m, a, b, c⟩ := hh h3
      exact ⟨m, a, by rw [getD_app_l (by omega), getD_app_r hn.symm]; exact b, by rw [getD_app_l a]; exact c⟩

theorem firstSolid_pos {K L : List Int} (hL : ∀ x ∈ L, 0 ≤ x) {x : Int} (hx : x ∈ L) (hs : solidB (rd K x) = true) : 0 ≤ firstSolid K L := by
  induction L with
  | nil => cases hx
  | cons y L ih =>
    rw [firstSolid]
    by_cases hy : solidB (rd K y) = true
    · rw [if_pos hy]; exact hL y (List.mem_cons_self ..)
    · rw [if_neg hy]
      rcases List.mem_cons.1 hx with rfl | hx
      · exact absurd hs hy
      · exact ih (fun z hz => hL z (List.mem_cons_of_mem _ hz)) hx

theorem Inv.initial {K P : List Int} (h : Inv K P) {a : Int} {i : Nat} (hi : i < K.length) (ha : P.getD i 0 = a) : 0 ≤ initial K P a := by
  obtain ⟨hn, h1, hok, hb, h0, hs⟩ := h
  have : ∃ m : Nat, m < K.length ∧ P.getD m 0 = a ∧ solidB (K.getD m 0) = true := by
    obtain ⟨a1, a2, _⟩ := okS_iff.1 (hok i hi)
    by_cases h3 : 3 ≤ K.getD i 0
    · obtain ⟨m, b, c, d⟩ := hb i hi h3
      exact ⟨m, by omega, by rw [c, ha], d⟩
    · exact ⟨i, hi, ha, solidB_iff.2 (by omega)⟩
  obtain ⟨m, b, c, d⟩ := this
  exact firstSolid_pos (fun x hx => (kids_in hn a x hx).1) (mem_kids.2 ⟨m, rfl, by omega, c⟩) (by rw [rd_nat]; exact d)

theorem Inv.valid {K P : List Int} (h : Inv K P) (h24 : K.length ≤ 24) : validB K P = true := by
  have hI := h
  obtain ⟨hn, h1, hok, hb, h0, hs⟩ := h
  unfold validB compsB
  rw [decide_eq_true ⟨h1, h24, hn⟩, Bool.true_and, Bool.and_eq_true, Bool.and_eq_true, List.all_eq_true, List.all_eq_true]
  refine ⟨fun i hi => hok i (by rw [List.mem_range'_1] at hi; omega), ?_, fun i hi => ?_⟩
  · unfold compB; rw [decide_eq_true (hI.initial (i := 0) (by omega) h0)]; simp
  · unfold compB
    by_cases hk : (kids P (i : Int)).isEmpty
    · rw [hk, show ((i : Int) != -1) = true from bne_iff_ne.mpr (by omega)]; rfl
    · have : ∃ x, x ∈ kids P (i : Int) := by
        cases hl : kids P (i : Int) with
        | nil => rw [hl] at hk; exact absurd rfl hk
        | cons x _ => exact ⟨x, List.mem_cons_self ..⟩
      obtain ⟨x, hx⟩ := this
      obtain ⟨j, rfl, b, c⟩ := mem_kids.1 hx
      rw [decide_eq_true (hI.initial (by omega) c)]; simp

/-- What Of hands back. -/
def OfPost (l : List Int) (r : List Int × List Int × List Int × List Int) : Prop :=
  Inv r.1 r.2.1 ∧ r.2.2.1 = r.1 ∧ r.2.2.2 = r.2.1 ∧ r.1.length = max 1 (min l.length 12)

theorem copy2 (K P : List Int) (hK : K.length < 17592186044416) (hP : P.length < 17592186044416) : ((imprimaturkeep_Copy_int.f K).bind fun t1 => ((imprimaturkeep_Copy_int.f P).bind fun t2 => (some (K, P, t1, t2)))) = some (K, P, K, P) := by
  rw [copy_f K hK, Option.bind_some, copy_f P hP, Option.bind_some]

theorem getD_set {l : List Int} {i j : Nat} {x : Int} (h : i < l.length) : (l.set i x).getD j 0 = if i = j then x else l.getD j 0 := by
  rw [List.getD_eq_getElem?_getD, List.getElem?_set, List.getD_eq_getElem?_getD]
  by_cases e : i = j
  · rw [if_pos e, if_pos e, if_pos h]; rfl
  · rw [if_neg e, if_neg e]

/-- Half way: those ahead of i that go back out of 0 have become plain. -/
def Inv2 (K P : List Int) (i : Nat) : Prop := P.length = K.length ∧ 1 ≤ K.length ∧ P.getD 0 0 = -1 ∧ K.getD 0 0 = 2 ∧
  (∀ j, j < K.length → 1 ≤ K.getD j 0 ∧ K.getD j 0 ≤ 4 ∧ -1 ≤ P.getD j 0 ∧ P.getD j 0 < j ∧ (P.getD j 0 = -1 → solidB (K.getD j 0) = true) ∧ (P.getD j 0 ≠ -1 → solidB (rd K (P.getD j 0)) = true)
    ∧ (P.getD j 0 ≠ -1 → solidB (K.getD j 0) = true ∨ rd K (P.getD j 0) = 1 ∨ (P.getD j 0 = 0 ∧ i ≤ j))) ∧
  (∀ j, j < K.length → 3 ≤ K.getD j 0 → ∃ m, m < j ∧ P.getD m 0 = P.getD j 0 ∧ solidB (K.getD m 0) = true)

theorem Inv2.done {K P : List Int} {i : Nat} (h : Inv2 K P i) (hi : K.length ≤ i) : Inv K P := by
  obtain ⟨hn, h1, h0, h2, hok, hb⟩ := h
  refine ⟨hn, h1, fun j hj => ?_, hb, h0, by rw [h2]; rfl⟩
  obtain ⟨a1, a2, a3, a4, a5, a6, a7⟩ := hok j hj
  refine okS_iff.2 ⟨a1, a2, a3, a4, ?_⟩
  by_cases hp : P.getD j 0 = -1
  · rw [if_pos hp]; exact a5 hp
  · rw [if_neg hp, a6 hp, Bool.true_and]
    rcases a7 hp with h | h | h
    · rw [h]; rfl
    · rw [h]; simp
    · omega
theorem Inv2.start {K P : List Int} (h : Inv K P) : Inv2 (K.set 0 2) P 0 := by
  obtain ⟨hn, h1, hok, hb, h0, hs⟩ := h
  have g : ∀ j, (K.set 0 2).getD j 0 = if 0 = j then 2 else K.getD j 0 := fun j => getD_set (by omega)
  have gs : ∀ j, solidB (K.getD j 0) = true → solidB ((K.set 0 2).getD j 0) = true := fun j hj => by
    rw [g]
    by_cases e : 0 = j
    · rw [if_pos e]; rfl
    · rw [if_neg e]; exact hj
  refine ⟨by rw [List.length_set]; exact hn, by rw [List.length_set]; exact h1, h0, by rw [g]; rfl, fun j hj => ?_, fun j hj h3 => ?_⟩
  · rw [List.length_set] at hj
    obtain ⟨a1, a2, a3, a4, a5⟩ := okS_iff.1 (hok j hj)
    have b : 1 ≤ (K.set 0 2).getD j 0 ∧ (K.set 0 2).getD j 0 ≤ 4 := by rw [g]; split <;> omega
    refine ⟨b.1, b.2, a3, a4, fun hp => ?_, fun hp => ?_, fun hp => ?_⟩
    · rw [if_pos hp] at a5; exact gs j a5
    · rw [if_neg hp, Bool.and_eq_true] at a5
      have := gs (P.getD j 0).toNat a5.1
      exact this
    · rw [if_neg hp, Bool.and_eq_true, Bool.or_eq_true] at a5
      rcases a5.2 with h | h
      · exact .inl (gs j h)
      · by_cases hz : P.getD j 0 = 0
        · exact .inr (.inr ⟨hz, Nat.zero_le _⟩)
        · refine .inr (.inl ?_)
          unfold rd at h ⊢
          rw [g, if_neg (by omega)]; exact eq_of_beq h
  · rw [List.length_set] at hj
    have hj0 : ¬ 0 = j := by intro e; rw [g, if_pos e] at h3; omega
    rw [g, if_neg hj0] at h3
    obtain ⟨m, a, b, c⟩ := hb j hj h3
    exact ⟨m, a, b, gs m c⟩
theorem Inv2.keep {K P : List Int} {i : Nat} (h : Inv2 K P i) (hc : ¬ (P.getD i 0 = 0 ∧ 3 ≤ K.getD i 0)) : Inv2 K P (i + 1) := by
  obtain ⟨hn, h1, h0, h2, hok, hb⟩ := h
  refine ⟨hn, h1, h0, h2, fun j hj => ?_, hb⟩
  obtain ⟨a1, a2, a3, a4, a5, a6, a7⟩ := hok j hj
  refine ⟨a1, a2, a3, a4, a5, a6, fun hp => ?_⟩
  rcases a7 hp with h | h | ⟨h, hi⟩
  · exact .inl h
  · exact .inr (.inl h)
  · by_cases e : i = j
    · subst e
      exact .inl (solidB_iff.2 (by omega))
    · exact .inr (.inr ⟨h, by omega⟩)
theorem Inv2.turn {K P : List Int} {i : Nat} (h : Inv2 K P i) (hi : i < K.length) (hp0 : P.getD i 0 = 0) (h3 : 3 ≤ K.getD i 0) : Inv2 (K.set i 1) P (i + 1) := by
  obtain ⟨hn, h1, h0, h2, hok, hb⟩ := h
  have g : ∀ j, (K.set i 1).getD j 0 = if i = j then 1 else K.getD j 0 := fun j => getD_set hi
  have gs : ∀ j, solidB (K.getD j 0) = true → solidB ((K.set i 1).getD j 0) = true := fun j hj => by
    rw [g]
    by_cases e : i = j
    · rw [if_pos e]; rfl
    · rw [if_neg e]; exact hj
  have hi0 : i ≠ 0 := by intro e; rw [e] at h3; omega
  refine ⟨by rw [List.length_set]; exact hn, by rw [List.length_set]; exact h1, h0, by rw [g, if_neg hi0]; exact h2, fun j hj => ?_, fun j hj hj3 => ?_⟩
  · rw [List.length_set] at hj
    obtain ⟨a1, a2, a3, a4, a5, a6, a7⟩ := hok j hj
    have b : 1 ≤ (K.set i 1).getD j 0 ∧ (K.set i 1).getD j 0 ≤ 4 := by rw [g]; split <;> omega
    refine ⟨b.1, b.2, a3, a4, fun hp => gs j (a5 hp), fun hp => gs _ (a6 hp), fun hp => ?_⟩
    rcases a7 hp with h | h | ⟨h, hij⟩
    · exact .inl (gs j h)
    · refine .inr (.inl ?_)
      unfold rd at h ⊢
      rw [g]
      by_cases e : i = (P.getD j 0).toNat
      · rw [if_pos e]
      · rw [if_neg e]; exact h
    · by_cases e : i = j
      · subst e
        exact .inl (by rw [g, if_pos rfl]; rfl)
      · exact .inr (.inr ⟨h, by omega⟩)
  · rw [List.length_set] at hj
    have hji : ¬ i = j := by intro e; rw [g, if_pos e] at hj3; omega
    rw [g, if_neg hji] at hj3
    obtain ⟨m, a, b, c⟩ := hb j hj hj3
    exact ⟨m, a, b, gs m c⟩
end Go.Proofs.Ytnomeokicfpidaa.M
/-
  Sets of states as numbers: what the printed operations on 32 bits answer. Conditions: none beyond each lemma's own.
-/
namespace Go.Proofs.Ytnomeokicfpidaa.M
open Go.RowKit Go.Proofs.YtnomeokicfpidaaW.PrintWords Go.Proofs.YtnomeokicfpidaaW.PrintLast Go.Proofs.YtnomeokicfpidaaW.PrintMore
set_option linter.unusedVariables false

theorem wraps_u32 (n : Int) (h₀ : 0 ≤ n) (h₁ : n < 2 ^ 32) : IntKind.u32.wrap n = n := by rw [IntKind.wrap_u32]; omega
theorem u32_and (a b : Nat) (ha : a < 4294967296) (hb : b < 4294967296) : Go.bits .and .u32 (a : Int) (b : Int) = ((a &&& b : Nat) : Int) := (bits_nat .u32 32 (by decide) wraps_u32 a b ha hb).1
theorem u32_or (a b : Nat) (ha : a < 4294967296) (hb : b < 4294967296) : Go.bits .or .u32 (a : Int) (b : Int) = ((a ||| b : Nat) : Int) := (bits_nat .u32 32 (by decide) wraps_u32 a b ha hb).2
theorem u32_xor (a b : Nat) (ha : a < 4294967296) (hb : b < 4294967296) : Go.bits .xor .u32 (a : Int) (b : Int) = ((a ^^^ b : Nat) : Int) := by
  have ha' : a % 2 ^ IntKind.u32.bits = a := Nat.mod_eq_of_lt ha
  have hb' : b % 2 ^ IntKind.u32.bits = b := Nat.mod_eq_of_lt hb
  simp only [Go.bits, BitVec.ofInt_natCast, BitVec.toNat_xor, BitVec.toNat_ofNat, ha', hb']
  exact wraps_u32 _ (Int.natCast_nonneg _) (by exact_mod_cast Nat.xor_lt_two_pow ha hb)
theorem shr_nat (a i : Nat) (ha : a < 4294967296) : shr .u32 (a : Int) (i : Int) = ((a >>> i : Nat) : Int) := by
  unfold shr
  rw [Int.toNat_natCast, Nat.shiftRight_eq_div_pow, show IntKind.u32.bits = 32 from rfl]
  by_cases h : i ≤ 32
  · rw [Nat.min_eq_left h]; simp
  · rw [Nat.min_eq_right (by omega)]
    have h1 : a / 2 ^ i = 0 := Nat.div_eq_of_lt (Nat.lt_of_lt_of_le (show a < 2 ^ 32 from ha) (Nat.pow_le_pow_right (by decide) (by omega)))
    have h2 : (a : Int) / 2 ^ 32 = 0 := by
      have : a / 4294967296 = 0 := Nat.div_eq_of_lt ha
      omega
    rw [h1, h2]; rfl
theorem shr_lt (a i : Nat) (ha : a < 4294967296) : a >>> i < 4294967296 := by
  rw [Nat.shiftRight_eq_div_pow]; exact Nat.lt_of_le_of_lt (Nat.div_le_self _ _) ha
theorem shl_one (i : Nat) (hi : i < 32) : shl .u32 1 (i : Int) = ((2 ^ i : Nat) : Int) := by
  unfold shl
  rw [Int.toNat_natCast, show IntKind.u32.bits = 32 from rfl, Nat.min_eq_left (by omega), Int.one_mul, wraps_u32]
  · simp
  · have : (0 : Int) < 2 ^ i := Int.pow_pos (by decide)
    omega
  · have : 2 ^ i < 2 ^ 32 := Nat.pow_lt_pow_right (by decide) hi
    exact_mod_cast this
theorem shl_big (i : Nat) (hi : 32 ≤ i) : shl .u32 1 (i : Int) = 0 := by
  unfold shl
  rw [Int.toNat_natCast, show IntKind.u32.bits = 32 from rfl, Nat.min_eq_right (by omega)]
  rfl
theorem pow_lt32 {i : Nat} (hi : i < 32) : 2 ^ i < 4294967296 := (show 2 ^ i < 2 ^ 32 from Nat.pow_lt_pow_right (by decide) hi)
/-- Is bit i set: as the code asks it. -/
theorem bit1 (a i : Nat) (ha : a < 4294967296) : Go.bits .and .u32 (shr .u32 (a : Int) (i : Int)) 1 = if a.testBit i then 1 else 0 := by
  rw [shr_nat a i ha, show (1 : Int) = ((1 : Nat) : Int) from rfl, u32_and _ _ (shr_lt a i ha) (by decide)]
  rw [Nat.testBit, Nat.and_comm]
  rw [Nat.and_comm, Nat.and_one_is_mod]
  have : (a >>> i) % 2 = 0 ∨ (a >>> i) % 2 = 1 := by omega
  rcases this with h | h
  · rw [h]; rfl
  · rw [h]; rfl
theorem u64w (i : Nat) (hi : i < 4611686018427387904) : IntKind.u64.wrap (i : Int) = (i : Int) := by
  have h : IntKind.u64.wrap (i : Int) = (i : Int) % 18446744073709551616 := by simp [IntKind.wrap, IntKind.bits, IntKind.signed]
  rw [h]; omega
theorem bitLenAux_le : ∀ (f n x : Nat), x < 2 ^ f → (Lib.bitLenAux f x ≤ n ↔ x < 2 ^ n) := by
  intro f
  induction f with
  | zero =>
    intro n x hx
    have : x = 0 := by simpa using hx
    subst this
    simp [Lib.bitLenAux, Nat.two_pow_pos]
  | succ f ih =>
    intro n x hx
    rw [Lib.bitLenAux]
    by_cases h0 : x = 0
    · rw [if_pos h0, h0]; simp [Nat.two_pow_pos]
    · rw [if_neg h0]
      cases n with
      | zero => simp; omega
      | succ n =>
        have := ih n (x / 2) (by rw [Nat.pow_succ] at hx; omega)
        rw [Nat.pow_succ]
        constructor
        · intro h
          have := this.1 (by omega)
          omega
        · intro h
          have := this.2 (by omega)
          omega
theorem bitLen_le (n x : Nat) (hx : x < 18446744073709551616) : Lib.bitLen x ≤ n ↔ x < 2 ^ n := bitLenAux_le 64 n x hx
end Go.Proofs.Ytnomeokicfpidaa.M
/-
  What the printed Proper answers: whether a set of states is a configuration. Conditions: a shape that is valid, a set below 2^32.
-/
namespace Go.Proofs.Ytnomeokicfpidaa.M
open Go.RowKit Go.Proofs.YtnomeokicfpidaaW.PrintWords Go.Proofs.YtnomeokicfpidaaW.PrintLast Go.Proofs.YtnomeokicfpidaaW.PrintMore Go.Proofs.Ytnomeokicfpidaa.Q
set_option linter.unusedVariables false

/-- How many of a list of states are in a set. -/
def cnt (s : Nat) (L : List Int) : Nat := L.countP (fun x => s.testBit x.toNat)
def heldB (K P : List Int) (s : Nat) (a : Int) (one : Bool) : Bool := if one = true then cnt s (kids P a) == min 1 (kids P a).length else cnt s (kids P a) == (kids P a).length
def atB (K P : List Int) (s : Nat) (i : Nat) : Bool := !s.testBit i || (solidB (K.getD i 0) && ((P.getD i 0 == -1 || s.testBit (P.getD i 0).toNat) && heldB K P s (i : Int) (K.getD i 0 == 1)))
def properB (K P : List Int) (s : Nat) : Bool := decide (s < 2 ^ K.length) && (heldB K P s (-1) true && (List.range' 0 K.length).all (atB K P s))

theorem held_l0 (s : Nat) (hs : s < 4294967296) (one : Bool) (L : List Int) (hL : ∀ x ∈ L, 0 ≤ x) (hl : L.length < 1099511627776) : ∀ (d i c : Nat), i + d = L.length → c ≤ i →
    Ev (fun k => shape_held.l0 k (s : Int) one L (c : Int) L (L.length : Int) (i : Int)) (if one = true then c + cnt s (L.drop i) == min 1 L.length else c + cnt s (L.drop i) == L.length) := by
  intro d
  induction d with
  | zero =>
    intro i c hi hc
    refine Ev.ret (fun k => ?_)
    simp only [shape_held.l0]
    rw [if_neg (by omega), List.drop_of_length_le (by omega), mn_eq]
    cases one with
    | true =>
      rw [if_pos rfl, if_pos rfl, show cnt s [] = 0 from rfl, Nat.add_zero]
      congr 1
      rw [Bool.eq_iff_iff, beq_iff_eq, beq_iff_eq]; omega
    | false =>
      rw [if_neg (by simp), if_neg (by simp), show cnt s [] = 0 from rfl, Nat.add_zero]
      congr 1
      rw [Bool.eq_iff_iff, beq_iff_eq, beq_iff_eq]; omega
  | succ d ih =>
    intro i c hi hc
    have hd : L.drop i = L.getD i 0 :: L.drop (i + 1) := by
      rw [List.drop_eq_getElem_cons (by omega), List.getD_eq_getElem?_getD, List.getElem?_eq_getElem (by omega)]; rfl
    have hm : L.getD i 0 ∈ L := by rw [List.getD_eq_getElem?_getD, List.getElem?_eq_getElem (by omega)]; exact List.getElem_mem _
    obtain ⟨x, hx⟩ := Int.eq_ofNat_of_zero_le (hL _ hm)
    have hcn : cnt s (L.drop i) = (if s.testBit x then 1 else 0) + cnt s (L.drop (i + 1)) := by
      rw [hd, hx]; unfold cnt; rw [List.countP_cons]
      simp only [Int.toNat_natCast]; omega
    rw [hcn]
    clear hcn
    have hw := w1 i (by omega)
    by_cases ht : s.testBit x = true
    · refine Ev.st (Ev.val (ih (i + 1) (c + 1) (by omega) (by omega)) (by rw [ht, if_pos rfl]; simp only [Nat.add_assoc])) (fun k => ?_)
      simp only [shape_held.l0]
      rw [if_pos (by omega), if_pos (by omega), if_pos (by omega), rd_nat, hx, if_pos (by omega), bit1 s x hs, ht, if_pos rfl, if_pos rfl, hw, w1 c (by omega)]
    · refine Ev.st (Ev.val (ih (i + 1) c (by omega) (by omega)) (by rw [eq_false_of_ne_true ht, if_neg (show ¬ (false = true) by simp), Nat.zero_add])) (fun k => ?_)
      simp only [shape_held.l0]
      rw [if_pos (by omega), if_pos (by omega), if_pos (by omega), rd_nat, hx, if_pos (by omega), bit1 s x hs, if_neg ht, if_neg (by omega), hw]
theorem held_f (K P : List Int) (s : Nat) (hs : s < 4294967296) (a : Int) (one : Bool) (hP : P.length < 1099511627776) : Ev (fun k => shape_held.f k K P (s : Int) a one) (heldB K P s a one) := by
  unfold shape_held.f
  refine Ev.bd (Kids_f K P a hP) ?_
  have h := held_l0 s hs one (kids P a) (fun x hx => by obtain ⟨j, rfl, _⟩ := mem_kids.1 hx; omega) (Nat.lt_of_le_of_lt (kids_len P a) hP) (kids P a).length 0 0 (by omega) (Nat.le_refl _)
  refine Ev.val h ?_
  unfold heldB
  simp only [List.drop_zero, Nat.zero_add]

theorem Proper_l0 (K P : List Int) (hn : P.length = K.length) (h24 : K.length ≤ 24) (hp : ∀ j, j < K.length → -1 ≤ P.getD j 0 ∧ P.getD j 0 < K.length) (s : Nat) (hs : s < 4294967296) : ∀ (d i : Nat), i + d = K.length →
    Ev (fun k => shape_Proper.l0 k (s : Int) K (K.length : Int) (i : Int) K P) ((List.range' i d).all (atB K P s)) := by
  intro d
  induction d with
  | zero =>
    intro i hi
    refine Ev.ret (fun k => ?_)
    simp only [shape_Proper.l0]
    rw [if_neg (by omega)]; simp
  | succ d ih =>
    intro i hi
    rw [List.range'_succ, List.all_cons]
    have ih' := ih (i + 1) (by omega)
    have hw := w1 i (by omega)
    have hpi := hp i (by omega)
    generalize hX : (List.range' (i + 1) d).all (atB K P s) = X at ih'
    by_cases hb : s.testBit i = true
    · by_cases hk : solidB (K.getD i 0) = true
      · have hh := held_f K P s hs (i : Int) (K.getD i 0 == 1) (by omega)
        have tail : Ev (fun k => (shape_held.f k K P (s : Int) (i : Int) (K.getD i 0 == 1)).bind fun t => if t = true then shape_Proper.l0 k (s : Int) K (K.length : Int) ((i + 1 : Nat) : Int) K P else some false) (heldB K P s (i : Int) (K.getD i 0 == 1) && X) := by
          refine Ev.bd hh (Ev.iff (fun h => ?_) (fun h => ?_))
          · rw [h]; exact ih'
          · rw [eq_false_of_ne_true h]; exact Ev.now _
        by_cases h1 : P.getD i 0 = -1
        · refine Ev.st (Ev.val tail (by unfold atB; rw [hb, hk, h1]; simp)) (fun k => ?_)
          simp only [shape_Proper.l0]
          rw [if_pos (by omega), if_pos (by omega), if_pos (by omega), bit1 s i hs, if_pos hb, if_pos rfl, rd_nat, solid_f, Option.bind_some, if_pos hk, if_pos (by omega), rd_nat, if_pos h1, hw]
        · obtain ⟨p, hpe⟩ := Int.eq_ofNat_of_zero_le (show 0 ≤ P.getD i 0 by omega)
          by_cases ht : s.testBit p = true
          · refine Ev.st (Ev.val tail (by unfold atB; rw [hb, hk, hpe, Int.toNat_natCast, ht]; simp)) (fun k => ?_)
            simp only [shape_Proper.l0]
            rw [if_pos (by omega), if_pos (by omega), if_pos (by omega), bit1 s i hs, if_pos hb, if_pos rfl, rd_nat, solid_f, Option.bind_some, if_pos hk, if_pos (by omega), rd_nat, if_neg h1, hpe, if_pos (by omega), bit1 s p hs, if_pos ht, if_neg (by omega), hw]
          · refine Ev.ret (fun k => ?_)
            simp only [shape_Proper.l0]
            rw [if_pos (by omega), if_pos (by omega), if_pos (by omega), bit1 s i hs, if_pos hb, if_pos rfl, rd_nat, solid_f, Option.bind_some, if_pos hk, if_pos (by omega), rd_nat, if_neg h1, hpe, if_pos (by omega), bit1 s p hs, if_neg ht, if_pos rfl]
            unfold atB
            rw [hb, hk, hpe, Int.toNat_natCast, eq_false_of_ne_true ht, show ((p : Int) == -1) = false from beq_eq_false_iff_ne.mpr (by omega)]; rfl
      · refine Ev.ret (fun k => ?_)
        simp only [shape_Proper.l0]
        rw [if_pos (by omega), if_pos (by omega), if_pos (by omega), bit1 s i hs, if_pos hb, if_pos rfl, rd_nat, solid_f, Option.bind_some, if_neg hk]
        unfold atB; rw [hb, eq_false_of_ne_true hk]; rfl
    · refine Ev.st (Ev.val ih' (by unfold atB; rw [eq_false_of_ne_true hb]; rfl)) (fun k => ?_)
      simp only [shape_Proper.l0]
      rw [if_pos (by omega), if_pos (by omega), if_pos (by omega), bit1 s i hs, if_neg hb, if_neg (by omega), hw]

theorem Proper_f (K P : List Int) (hn : P.length = K.length) (h24 : K.length ≤ 24) (hp : ∀ j, j < K.length → -1 ≤ P.getD j 0 ∧ P.getD j 0 < K.length) (s : Nat) (hs : s < 4294967296) :
    Ev (fun k => shape_Proper.f k K P (s : Int)) (properB K P s) := by
  have hl : bits_Len32.f (s : Int) = some ((Lib.bitLen s : Nat) : Int) := by
    unfold bits_Len32.f
    rw [if_pos (by omega), if_pos (by omega), Int.toNat_natCast]
  have hb := bitLen_le K.length s (by omega)
  have j0 : ∀ b : Bool, Ev (fun k => shape_Proper.j0 k (s : Int) b K P) (!b && (List.range' 0 K.length).all (atB K P s)) := by
    intro b
    cases b with
    | true =>
      refine Ev.ret (fun k => ?_)
      simp only [shape_Proper.j0]
      rw [if_pos trivial]; rfl
    | false =>
      refine Ev.st (Proper_l0 K P hn h24 hp s hs K.length 0 (by omega)) (fun k => ?_)
      simp only [shape_Proper.j0]
      rw [if_neg (by simp)]; rfl
  unfold shape_Proper.f
  simp only [hl, Option.bind_some]
  unfold properB
  by_cases hc : s < 2 ^ K.length
  · rw [decide_eq_true hc, Bool.true_and]
    refine Ev.neg (by have := hb.2 hc; omega) ?_
    refine Ev.bd (held_f K P s hs (-1) true (by omega)) (Ev.val (j0 _) (by simp))
  · rw [decide_eq_false hc, Bool.false_and]
    exact Ev.pos (by have := fun h => hc (hb.1 h); omega) (Ev.val (j0 true) rfl)
end Go.Proofs.Ytnomeokicfpidaa.M
/-
  The configurations of a shape, listed: each stands in the list once, and no other set does. Conditions: a shape as Of makes it.
-/
namespace Go.Proofs.Ytnomeokicfpidaa.M
open Go.RowKit Go.Proofs.YtnomeokicfpidaaW.PrintWords Go.Proofs.YtnomeokicfpidaaW.PrintLast Go.Proofs.YtnomeokicfpidaaW.PrintMore
set_option linter.unusedVariables false

theorem Inv.tree {K P : List Int} (h : Inv K P) : Tree P := fun j hj => by
  obtain ⟨_, _, a, b, _⟩ := okS_iff.1 (h.2.2.1 j (by have := h.1; omega))
  exact ⟨a, b⟩
theorem kids_nodup (P : List Int) (a : Int) : (kids P a).Nodup := by
  unfold kids kidsFrom List.Nodup
  rw [List.pairwise_map]
  refine List.Pairwise.imp ?_ (List.Pairwise.filter _ (List.nodup_range' (s := 0) (n := P.length) 1))
  intro x y h e
  exact h (by omega)
/-- The solid states of one. -/
def sk (K P : List Int) (a : Int) : List Int := (kids P a).filter (fun x => solidB (rd K x))
def prodL : List (List Nat) → List Nat
  | [] => [0]
  | X :: XS => X.flatMap (fun x => (prodL XS).map (fun y => x ||| y))
def confs (K P : List Int) : Nat → Int → List Nat
  | 0, _ => [0]
  | f + 1, a => if sk K P a = [] then [0]
    else if 0 ≤ a ∧ rd K a = 2 then prodL ((sk K P a).map (fun k => (confs K P f k).map (fun s => 2 ^ k.toNat ||| s)))
    else (sk K P a).flatMap (fun k => (confs K P f k).map (fun s => 2 ^ k.toNat ||| s))
def one (K : List Int) (a : Int) : Bool := a == -1 || rd K a == 1
structure LP (K P : List Int) (a : Int) (s : Nat) : Prop where
  mem : ∀ j : Nat, s.testBit j = true → j < K.length ∧ (j : Int) ≠ a ∧ Un P j a ∧ solidB (K.getD j 0) = true ∧ (P.getD j 0 = a ∨ (0 ≤ P.getD j 0 ∧ s.testBit (P.getD j 0).toNat = true))
  own : heldB K P s a (one K a) = true
  all : ∀ j : Nat, s.testBit j = true → heldB K P s (j : Int) (one K (j : Int)) = true

theorem one_nat (K : List Int) (j : Nat) : one K (j : Int) = (K.getD j 0 == 1) := by
  unfold one
  rw [show ((j : Int) == -1) = false from beq_eq_false_iff_ne.mpr (by omega), rd_nat]; rfl
theorem cnt_congr {s s' : Nat} {L : List Int} (h : ∀ x ∈ L, s.testBit x.toNat = s'.testBit x.toNat) : cnt s L = cnt s' L := by
  unfold cnt
  exact List.countP_congr (fun x hx => by rw [h x hx])
theorem heldB_congr {K P : List Int} {s s' : Nat} {a : Int} {o : Bool} (h : ∀ x ∈ kids P a, s.testBit x.toNat = s'.testBit x.toNat) : heldB K P s a o = heldB K P s' a o := by
  unfold heldB; rw [cnt_congr h]
theorem cnt_all {s : Nat} {L : List Int} : cnt s L = L.length ↔ ∀ x ∈ L, s.testBit x.toNat = true := by
  unfold cnt
  exact List.countP_eq_length
theorem cnt_zero {s : Nat} {L : List Int} : cnt s L = 0 ↔ ∀ x ∈ L, ¬ s.testBit x.toNat = true := by
  unfold cnt
  exact List.countP_eq_zero
theorem cnt_one {s : Nat} : ∀ {L : List Int}, L.Nodup → (cnt s L = 1 ↔ ∃ k ∈ L, s.testBit k.toNat = true ∧ ∀ m ∈ L, s.testBit m.toNat = true → m = k)
  | [], _ => by simp [cnt]
  | x :: L, hd => by
    obtain ⟨h1, h2⟩ := List.nodup_cons.1 hd
    have ih := cnt_one (s := s) h2
    have hc : cnt s (x :: L) = cnt s L + (if s.testBit x.toNat = true then 1 else 0) := by unfold cnt; rw [List.countP_cons]
    rw [hc]
    by_cases hx : s.testBit x.toNat = true
    · rw [if_pos hx]
      constructor
      · intro h
        have h0 := cnt_zero.1 (show cnt s L = 0 by omega)
        refine ⟨x, List.mem_cons_self .., hx, fun m hm hb => ?_⟩
        rcases List.mem_cons.1 hm with rfl | hm
        · rfl
        · exact absurd hb (h0 m hm)
      · rintro ⟨k, hk, hb, hu⟩
        have hxk := hu x (List.mem_cons_self ..) hx
        have : cnt s L = 0 := cnt_zero.2 (fun m hm hb' => h1 (by
          have := hu m (List.mem_cons_of_mem _ hm) hb'
          rw [hxk, ← this]; exact hm))
        omega
    · rw [if_neg hx, Nat.add_zero, ih]
      constructor
      · rintro ⟨k, hk, hb, hu⟩
        refine ⟨k, List.mem_cons_of_mem _ hk, hb, fun m hm hb' => ?_⟩
        rcases List.mem_cons.1 hm with rfl | hm
        · exact absurd hb' hx
        · exact hu m hm hb'
      · rintro ⟨k, hk, hb, hu⟩
        rcases List.mem_cons.1 hk with rfl | hk
        · exact absurd hb hx
        · exact ⟨k, hk, hb, fun m hm hb' => hu m (List.mem_cons_of_mem _ hm) hb'⟩
theorem held_one {K P : List Int} {s : Nat} {a : Int} : heldB K P s a true = true ↔ kids P a = [] ∨ ∃ k ∈ kids P a, s.testBit k.toNat = true ∧ ∀ m ∈ kids P a, s.testBit m.toNat = true → m = k := by
  unfold heldB
  rw [if_pos rfl, beq_iff_eq]
  by_cases h : kids P a = []
  · rw [h]; simp [cnt]
  · have : 0 < (kids P a).length := List.length_pos_iff.2 h
    rw [Nat.min_eq_left (by omega), cnt_one (kids_nodup P a)]
    constructor
    · exact .inr
    · rintro (h' | h')
      · exact absurd h' h
      · exact h'
theorem held_all {K P : List Int} {s : Nat} {a : Int} : heldB K P s a false = true ↔ ∀ m ∈ kids P a, s.testBit m.toNat = true := by
  unfold heldB
  rw [if_neg (by simp), beq_iff_eq]
  exact cnt_all

section
variable {K P : List Int} (hI : Inv K P)
include hI
theorem kid_par {a x : Int} (hx : x ∈ kids P a) (ha : a ≠ -1) : 0 ≤ a ∧ a < K.length ∧ solidB (rd K a) = true ∧ (solidB (rd K x) = true ∨ rd K a = 1) := by
  obtain ⟨j, rfl, h1, h2⟩ := mem_kids.1 hx
  have hn := hI.1
  obtain ⟨_, _, b1, b2, b3⟩ := okS_iff.1 (hI.2.2.1 j (by omega))
  rw [h2] at b1 b2 b3
  rw [if_neg ha, Bool.and_eq_true, Bool.or_eq_true, beq_iff_eq] at b3
  rw [rd_nat]
  exact ⟨by omega, by omega, b3.1, b3.2⟩
theorem sk_nil {a : Int} (h : sk K P a = []) : kids P a = [] := by
  have hn := hI.1
  cases hk : kids P a with
  | nil => rfl
  | cons x L =>
    exfalso
    have hx : x ∈ kids P a := by rw [hk]; exact List.mem_cons_self ..
    obtain ⟨j, rfl, h1, h2⟩ := mem_kids.1 hx
    have : ∃ m : Nat, m < K.length ∧ P.getD m 0 = a ∧ solidB (K.getD m 0) = true := by
      obtain ⟨a1, a2, _⟩ := okS_iff.1 (hI.2.2.1 j (by omega))
      by_cases h3 : 3 ≤ K.getD j 0
      · obtain ⟨m, b, c, d⟩ := hI.2.2.2.1 j (by omega) h3
        exact ⟨m, by omega, by rw [c, h2], d⟩
      · exact ⟨j, by omega, h2, solidB_iff.2 (by omega)⟩
    obtain ⟨m, b, c, d⟩ := this
    have : (m : Int) ∈ sk K P a := List.mem_filter.2 ⟨mem_kids.2 ⟨m, rfl, by omega, c⟩, by rw [rd_nat]; exact d⟩
    rw [h] at this; cases this
theorem one_false {a : Int} (h : sk K P a ≠ []) : one K a = false ↔ (0 ≤ a ∧ rd K a = 2) := by
  obtain ⟨x, hx⟩ := List.exists_mem_of_ne_nil _ h
  have hx' := (List.mem_filter.1 hx).1
  unfold one
  by_cases e : a = -1
  · subst e; simp
  · obtain ⟨h0, _, h2, _⟩ := kid_par hI hx' e
    rw [show (a == -1) = false from beq_eq_false_iff_ne.mpr e, Bool.false_or, beq_eq_false_iff_ne]
    have := solidB_iff.1 h2
    constructor
    · intro h; exact ⟨h0, by omega⟩
    · intro h; omega
theorem LP.clos {a : Int} {s : Nat} (h : LP K P a s) {x m : Int} (hu : Un P x m) (hx0 : 0 ≤ x) (hx : s.testBit x.toNat = true) (hm : m ≠ a) (hma : Un P m a) : 0 ≤ m ∧ s.testBit m.toNat = true := by
  have hT := hI.tree
  induction hu with
  | refl => exact ⟨hx0, hx⟩
  | @up x m h0 h1 hu ih =>
    obtain ⟨_, e1, e2, _, e3⟩ := h.mem x.toNat hx
    rw [show ((x.toNat : Nat) : Int) = x by omega] at e1 e2
    have er : P.getD x.toNat 0 = rd P x := rfl
    rw [er] at e3
    rcases e3 with e3 | ⟨e3, e4⟩
    · rw [e3] at hu
      have l1 := hu.le hT
      have l2 := hma.le hT
      omega
    · exact ih e3 e4 hm hma
end
end Go.Proofs.Ytnomeokicfpidaa.M
/-
  What lies in a state, as a list: closed, each state in it held as it is to be, parents ahead. Conditions: a valid shape.
-/
namespace Go.Proofs.Ytnomeokicfpidaa.M
open Go.RowKit Go.Proofs.YtnomeokicfpidaaW.PrintWords Go.Proofs.YtnomeokicfpidaaW.PrintLast Go.Proofs.YtnomeokicfpidaaW.PrintMore
set_option linter.unusedVariables false

/-- Of the states in x those that are to be are in R: one, or all. -/
def hold (K P R : List Int) (x : Int) : Prop := if one K x = true then (kids P x = [] ∨ ∃ k ∈ kids P x, k ∈ R ∧ ∀ m ∈ kids P x, m ∈ R → m = k) else ∀ m ∈ kids P x, m ∈ R
/-- R lies in a. -/
structure BL (K P : List Int) (a : Int) (R : List Int) : Prop where
  nd : R.Nodup
  el : ∀ x ∈ R, 0 ≤ x ∧ x < K.length ∧ solidB (rd K x) = true ∧ Un P x a ∧ x ≠ a
  ord : ∀ pre x post, R = pre ++ x :: post → rd P x = a ∨ rd P x ∈ pre
  hel : ∀ x ∈ R, hold K P R x
  own : hold K P R a

theorem BL.par {K P : List Int} {a : Int} {R : List Int} (h : BL K P a R) {x : Int} (hx : x ∈ R) : rd P x = a ∨ rd P x ∈ R := by
  obtain ⟨pre, post, rfl⟩ := List.append_of_mem hx
  rcases h.ord pre x post rfl with e | e
  · exact .inl e
  · exact .inr (List.mem_append_left _ e)
theorem hold_congr {K P R R' : List Int} {x : Int} (h : ∀ m ∈ kids P x, m ∈ R ↔ m ∈ R') : hold K P R x ↔ hold K P R' x := by
  unfold hold
  by_cases o : one K x = true
  · rw [if_pos o, if_pos o]
    constructor
    · rintro (e | ⟨k, hk, hb, hu⟩)
      · exact .inl e
      · exact .inr ⟨k, hk, (h k hk).1 hb, fun m hm hb' => hu m hm ((h m hm).2 hb')⟩
    · rintro (e | ⟨k, hk, hb, hu⟩)
      · exact .inl e
      · exact .inr ⟨k, hk, (h k hk).2 hb, fun m hm hb' => hu m hm ((h m hm).1 hb')⟩
  · rw [if_neg o, if_neg o]
    exact ⟨fun g m hm => (h m hm).1 (g m hm), fun g m hm => (h m hm).2 (g m hm)⟩
theorem mem_kids_rd {P : List Int} {a x : Int} (h : x ∈ kids P a) : 0 ≤ x ∧ x < P.length ∧ rd P x = a := by
  obtain ⟨j, rfl, h1, h2⟩ := mem_kids.1 h
  rw [rd_nat]; exact ⟨by omega, by omega, h2⟩
theorem kids_of_rd {P : List Int} {a x : Int} (h0 : 0 ≤ x) (h1 : x < P.length) (h : rd P x = a) : x ∈ kids P a :=
  mem_kids.2 ⟨x.toNat, by omega, by omega, h⟩
theorem Un.kid1 {P : List Int} {a x : Int} (h : x ∈ kids P a) : Un P x a := by
  obtain ⟨h0, h1, e⟩ := mem_kids_rd h
  exact .up h0 h1 (e ▸ .refl _)

theorem BL.leaf {K P : List Int} {a : Int} (h : kids P a = []) : BL K P a [] := by
  refine ⟨List.nodup_nil, by simp, fun pre x post e => by simp at e, by simp, ?_⟩
  unfold hold
  split
  · exact .inl h
  · rw [h]; simp

section
variable {K P : List Int} (hO : Ok K P)
include hO
theorem sib_eq {a k m x : Int} (hk : k ∈ kids P a) (hm : m ∈ kids P a) (h : Un P x k) (h' : Un P x m) : k = m := by
  obtain ⟨j, rfl, h1, h2⟩ := mem_kids.1 hk
  obtain ⟨i, rfl, h3, h4⟩ := mem_kids.1 hm
  exact congrArg _ (Un.sib hO.tree h1 h3 h2 h4 h h')
/-- All states of one (or the one that is to be), each with what lies in it. -/
theorem BL.some {a : Int} (L : List Int) (F : Int → List Int) (hd : L.Nodup) (hL : ∀ k ∈ L, k ∈ kids P a ∧ solidB (rd K k) = true ∧ BL K P k (F k))
    (hc : kids P a = [] ∨ (one K a = true ∧ ∃ k, L = [k]) ∨ (one K a = false ∧ ∀ m ∈ kids P a, m ∈ L)) : BL K P a (L.flatMap (fun k => k :: F k)) := by
  have hT := hO.tree
  have hn := hO.1
  have mem : ∀ x, x ∈ L.flatMap (fun k => k :: F k) ↔ ∃ k ∈ L, x = k ∨ x ∈ F k := by
    intro x; rw [List.mem_flatMap]; simp only [List.mem_cons]
  have lies : ∀ x k, k ∈ L → (x = k ∨ x ∈ F k) → Un P x k := by
    rintro x k hk (rfl | h)
    · exact .refl _
    · exact ((hL k hk).2.2.el x h).2.2.2.1
  have kin : ∀ m ∈ kids P a, m ∈ L.flatMap (fun k => k :: F k) ↔ m ∈ L := by
    intro m hm
    rw [mem]
    constructor
    · rintro ⟨k, hk, h⟩
      have := sib_eq hO hm (hL k hk).1 (.refl _) (lies m k hk h)
      rw [this]; exact hk
    · intro h; exact ⟨m, h, .inl rfl⟩
  have deep : ∀ k ∈ L, ∀ y, Un P y k → ∀ m ∈ kids P y, (m ∈ L.flatMap (fun k => k :: F k) ↔ m ∈ F k) := by
    intro k hk y hy m hm
    have hmy := Un.kid1 hm
    have hmk : Un P m k := hmy.trans hy
    have hne : m ≠ k := by
      rintro rfl
      obtain ⟨m0, m1, m2⟩ := mem_kids_rd hm
      have := hT.rdP m0 m1
      have := hy.le hT
      omega
    rw [mem]
    constructor
    · rintro ⟨k', hk', h⟩
      have e := sib_eq hO (hL k hk).1 (hL k' hk').1 hmk (lies m k' hk' h)
      rw [← e] at h
      exact h.resolve_left hne
    · intro h; exact ⟨k, hk, .inr h⟩
  refine ⟨?_, ?_, ?_, ?_, ?_⟩
  · rw [List.Nodup, List.pairwise_flatMap]
    refine ⟨fun k hk => ?_, ?_⟩
    · have b := (hL k hk).2.2
      exact List.nodup_cons.2 ⟨fun h => ((b.el k h).2.2.2.2) rfl, b.nd⟩
    · refine List.Pairwise.imp_of_mem (R := fun a b => a ≠ b) ?_ hd
      intro k k' hk hk' hne x hx y hy e
      rw [List.mem_cons] at hx hy
      subst e
      exact hne (sib_eq hO (hL k hk).1 (hL k' hk').1 (lies x k hk hx) (lies x k' hk' hy))
  · intro x hx
    obtain ⟨k, hk, h⟩ := (mem x).1 hx
    obtain ⟨k0, k1, k2⟩ := mem_kids_rd (hL k hk).1
    have hak := (hO.kid (hL k hk).1).2.2.1
    rcases h with rfl | h
    · exact ⟨k0, by omega, (hL x hk).2.1, Un.kid1 (hL x hk).1, by omega⟩
    · obtain ⟨x0, x1, x2, x3, x4⟩ := (hL k hk).2.2.el x h
      have := x3.le hT
      exact ⟨x0, x1, x2, x3.trans (Un.kid1 (hL k hk).1), by omega⟩
  · intro pre x post e
    have main : ∀ (L0 : List Int) (pre post : List Int), (∀ k ∈ L0, k ∈ L) → L0.flatMap (fun k => k :: F k) = pre ++ x :: post → rd P x = a ∨ rd P x ∈ pre := by
      intro L0
      induction L0 with
      | nil => intro pre post _ e; simp at e
      | cons k L0 ih =>
        intro pre post hsub e
        rw [List.flatMap_cons] at e
        have hk := hsub k (List.mem_cons_self ..)
        rcases List.append_eq_append_iff.1 e with ⟨ls, h1, h2⟩ | ⟨bs, h1, h2⟩
        · -- pre = (k :: F k) ++ ls
          rcases ih ls post (fun k' h => hsub k' (List.mem_cons_of_mem _ h)) h2 with h | h
          · exact .inl h
          · exact .inr (by rw [h1]; exact List.mem_append_right _ h)
        · -- k :: F k = pre ++ bs
          cases bs with
          | nil =>
            simp only [List.append_nil, List.nil_append] at h1 h2
            rcases ih [] post (fun k' h => hsub k' (List.mem_cons_of_mem _ h)) (by simpa using h2.symm) with h | h
            · exact .inl h
            · cases h
          | cons b bs =>
            simp only [List.cons_append, List.cons.injEq] at h2
            obtain ⟨rfl, h2⟩ := h2
            cases pre with
            | nil =>
              simp only [List.nil_append, List.cons.injEq] at h1
              rw [← h1.1]
              exact .inl (mem_kids_rd (hL k hk).1).2.2
            | cons p pre =>
              simp only [List.cons_append, List.cons.injEq] at h1
              obtain ⟨rfl, h1⟩ := h1
              rcases (hL k hk).2.2.ord pre x bs h1 with h | h
              · exact .inr (by rw [h]; exact List.mem_cons_self ..)
              · exact .inr (List.mem_cons_of_mem _ h)
    exact main L pre post (fun k h => h) e
  · intro x hx
    obtain ⟨k, hk, h⟩ := (mem x).1 hx
    rw [hold_congr (deep k hk x (lies x k hk h))]
    rcases h with rfl | h
    · exact (hL x hk).2.2.own
    · exact (hL k hk).2.2.hel x h
  · rw [hold_congr kin]
    unfold hold
    rcases hc with e | ⟨o, k, rfl⟩ | ⟨o, h⟩
    · split
      · exact .inl e
      · rw [e]; simp
    · rw [if_pos o]
      exact .inr ⟨k, (hL k (List.mem_singleton.2 rfl)).1, List.mem_singleton.2 rfl, fun m _ hm => List.mem_singleton.1 hm⟩
    · rw [if_neg (by rw [o]; simp)]
      exact h
/-- One state, with what lies in it. -/
theorem BL.single {a k : Int} {R : List Int} (hk : k ∈ kids P a) (hs : solidB (rd K k) = true) (ho : one K a = true) (h : BL K P k R) : BL K P a (k :: R) := by
  have := BL.some hO [k] (fun _ => R) (by simp) (fun x hx => by rw [List.mem_singleton.1 hx]; exact ⟨hk, hs, h⟩) (.inr (.inl ⟨ho, k, rfl⟩))
  simpa using this
/-- Two that lie in a state, one within the other, are the same. -/
theorem BL.same {a b : Int} {R S : List Int} (h : BL K P a R) (h' : BL K P b S) (hsub : ∀ x ∈ R, x ∈ S) (hab : Un P a b) : ∀ (d : Nat) (x : Int), x - a ≤ d → x ∈ S → Un P x a → x ≠ a → x ∈ R := by
  have hT := hO.tree
  have hn := hO.1
  -- a itself is b, or in S as soon as anything of it is
  have haS : ∀ x, x ∈ S → Un P x a → a = b ∨ a ∈ S := by
    intro x hx hu
    have : ∀ (n : Nat) (x : Int), x ≤ n → x ∈ S → Un P x a → a = b ∨ a ∈ S := by
      intro n
      induction n with
      | zero =>
        intro x hx0 hx hu
        by_cases e : x = a
        · exact .inr (e ▸ hx)
        · obtain ⟨x0, x1, x2, x3, x4⟩ := h'.el x hx
          obtain ⟨_, _, u⟩ := hu.cases' e
          have hp := hT.rdP x0 (by omega)
          have hle := u.le hT
          have hle' := hab.le hT
          rcases h'.par hx with e' | e'
          · have : rd P x = a ∨ rd P x = b := .inr e'
            left; omega
          · have := (h'.el _ e').1; omega
      | succ n ih =>
        intro x hx0 hx hu
        by_cases e : x = a
        · exact .inr (e ▸ hx)
        · obtain ⟨x0, x1, x2, x3, x4⟩ := h'.el x hx
          obtain ⟨_, _, u⟩ := hu.cases' e
          have hp := hT.rdP x0 (by omega)
          rcases h'.par hx with e' | e'
          · rw [e'] at u
            have := u.le hT
            have := hab.le hT
            left; omega
          · exact ih (rd P x) (by omega) e' u
    exact this x.toNat x (by have := (h'.el x hx).1; omega) hx hu
  have hh : ∀ y, (y = a ∨ y ∈ R) → (∃ x ∈ S, Un P x a) → hold K P S y := by
    rintro y (rfl | hy) ⟨x, hx, hu⟩
    · rcases haS x hx hu with e | e
      · rw [e]; exact h'.own
      · exact h'.hel _ e
    · exact h'.hel y (hsub y hy)
  intro d
  induction d with
  | zero =>
    intro x hd hx hu hne
    have := hu.lt hT hne; omega
  | succ d ih =>
    intro x hd hx hu hne
    obtain ⟨x0, x1, u⟩ := hu.cases' hne
    have hp := hT.rdP x0 x1
    have hk : x ∈ kids P (rd P x) := kids_of_rd x0 x1 rfl
    have hpar : rd P x = a ∨ rd P x ∈ R := by
      by_cases e : rd P x = a
      · exact .inl e
      · right
        have hb : rd P x ∈ S := by
          rcases h'.par hx with e' | e'
          · have := u.le hT
            have := hab.le hT
            omega
          · exact e'
        exact ih (rd P x) (by omega) hb u e
    have hR : hold K P R (rd P x) := by
      rcases hpar with e | e
      · rw [e]; exact h.own
      · exact h.hel _ e
    have hS' : hold K P S (rd P x) := hh _ hpar ⟨x, hx, hu⟩
    unfold hold at hR hS'
    by_cases o : one K (rd P x) = true
    · rw [if_pos o] at hR hS'
      rcases hR with e | ⟨k, hk1, hk2, hk3⟩
      · rw [e] at hk; cases hk
      · rcases hS' with e | ⟨k', hk1', hk2', hk3'⟩
        · rw [e] at hk; cases hk
        · rw [hk3' x hk hx, ← hk3' k hk1 (hsub k hk2)]; exact hk2
    · rw [if_neg o] at hR
      exact hR x hk
end
end Go.Proofs.Ytnomeokicfpidaa.M
/-
  What is entered lies in the domain as it is to be. Conditions: a valid shape; what was left last lies in its state so.
-/
namespace Go.Proofs.Ytnomeokicfpidaa.M
open Go.RowKit Go.Proofs.YtnomeokicfpidaaW.PrintWords Go.Proofs.YtnomeokicfpidaaW.PrintLast Go.Proofs.YtnomeokicfpidaaW.PrintMore Go.Proofs.Ytnomeokicfpidaa.EW
set_option linter.unusedVariables false

theorem flatMap_same {α β : Type} {f g : α → List β} : ∀ {L : List α}, (∀ x ∈ L, f x = g x) → L.flatMap f = L.flatMap g
  | [], _ => rfl
  | x :: L, h => by rw [List.flatMap_cons, List.flatMap_cons, h x (List.mem_cons_self ..), flatMap_same (fun y hy => h y (List.mem_cons_of_mem _ hy))]
theorem flatMap_if {α β : Type} {p : α → Bool} {f : α → List β} : ∀ {L : List α}, L.flatMap (fun k => if p k = true then f k else []) = (L.filter p).flatMap f
  | [] => rfl
  | x :: L => by
    rw [List.flatMap_cons, flatMap_if, List.filter_cons]
    by_cases h : p x = true
    · rw [if_pos h, if_pos h, List.flatMap_cons]
    · rw [if_neg h, if_neg h, List.nil_append]
theorem flatMap_nil' {α β : Type} {f : α → List β} : ∀ {L : List α}, (∀ x ∈ L, f x = []) → L.flatMap f = []
  | [], _ => rfl
  | x :: L, h => by rw [List.flatMap_cons, h x (List.mem_cons_self ..), flatMap_nil' (fun y hy => h y (List.mem_cons_of_mem _ hy))]; rfl

section
variable {K P : List Int} (hO : Ok K P)
include hO
omit hO in
theorem one_of {a : Int} (h0 : 0 ≤ a) : one K a = true ↔ rd K a = 1 := by
  unfold one
  rw [show (a == -1) = false from beq_eq_false_iff_ne.mpr (by omega), Bool.false_or, beq_iff_eq]
theorem solid_of {a : Int} (h0 : 0 ≤ a) (h1 : a < K.length) : solidB (rd K a) = true ↔ rd K a < 3 := by
  have := rd_range hO h0 h1
  rw [solidB_iff]; omega
/-- A state that goes back lies in a plain one. -/
theorem hist_par {z : Int} (h0 : 0 ≤ z) (h1 : z < K.length) (h : ¬ solidB (rd K z) = true) : 0 ≤ rd P z ∧ rd P z < z ∧ rd K (rd P z) = 1 ∧ kids P (rd P z) ≠ [] := by
  have hp := hO.tree.rdP h0 (by have := hO.1; omega)
  have hk : z ∈ kids P (rd P z) := kids_of_rd h0 (by have := hO.1; omega) rfl
  obtain ⟨_, _, _, _, a1, a2⟩ := hO.kid hk
  have : rd P z ≠ -1 := fun e => h (a1 e)
  obtain ⟨b1, b2⟩ := a2 this
  exact ⟨by omega, hp.2, b2.resolve_left h, fun e => by rw [e] at hk; cases hk⟩
theorem inS_BL : ∀ (f : Nat) (a : Int), 0 ≤ a → a < K.length → (K.length : Int) - a ≤ f → solidB (rd K a) = true → ∃ R, inS K P f a = a :: R ∧ BL K P a R := by
  intro f
  induction f with
  | zero => intro a h0 h1 h2; omega
  | succ f ih =>
    intro a h0 h1 h2 hs
    rw [inS]
    have sub : ∀ k ∈ kids P a, solidB (rd K k) = true → ∃ R, inS K P f k = k :: R ∧ BL K P k R := fun k hk hk' => by
      obtain ⟨k0, k1, k2, _⟩ := hO.kid hk
      exact ih k k0 k1 (by omega) hk'
    by_cases h2 : rd K a = 2
    · rw [if_pos h2]
      have sol : ∀ k ∈ kids P a, solidB (rd K k) = true := fun k hk => by
        obtain ⟨_, _, _, _, _, x⟩ := hO.kid hk
        exact ((x (by omega)).2).resolve_right (by omega)
      refine ⟨_, rfl, ?_⟩
      have e : (kids P a).flatMap (inS K P f) = (kids P a).flatMap (fun k => k :: (inS K P f k).tail) := flatMap_same (fun k hk => by
        obtain ⟨R, e, _⟩ := sub k hk (sol k hk)
        rw [e]; rfl)
      rw [e]
      refine BL.some hO _ _ (kids_nodup P a) (fun k hk => ⟨hk, sol k hk, ?_⟩) (.inr (.inr ⟨?_, fun m hm => hm⟩))
      · obtain ⟨R, e, b⟩ := sub k hk (sol k hk)
        rw [e]; exact b
      · rw [Bool.eq_false_iff]; intro h; rw [one_of h0] at h; omega
    · rw [if_neg h2]
      have h1 : rd K a = 1 := by have := solidB_iff.1 hs; omega
      rcases initial_cases K P a with e | ⟨e, e'⟩
      · rw [e, if_neg (by omega)]
        refine ⟨[], rfl, BL.leaf ?_⟩
        exact Classical.byContradiction fun h => by have := hO.2.2.2.1 a h; omega
      · obtain ⟨R, e1, b⟩ := sub _ e e'
        rw [if_pos (hO.kid e).1, e1]
        exact ⟨_, rfl, BL.single hO e e' ((one_of h0).2 h1) b⟩

/-- What was left last lies in its state. -/
def PastOk (K P Q : List Int) : Prop := ∀ i : Int, 0 ≤ i → i < K.length → belowL K P (wasS Q i) i = [] ∨ BL K P i (belowL K P (wasS Q i) i)

theorem back_BL {up : Int} (h0 : 0 ≤ up) (h1 : up < K.length) (hp : rd K up = 1) (hk : kids P up ≠ []) {l : List Int} (hl : l = [] ∨ BL K P up l) (deep : Bool) : BL K P up (backR K P (inS K P K.length) l up deep) := by
  have ho := (one_of (K := K) h0).2 hp
  have step : ∀ k, k ∈ kids P up → solidB (rd K k) = true → BL K P up (inS K P K.length k) := fun k hk hs => by
    obtain ⟨k0, k1, k2, _⟩ := hO.kid hk
    obtain ⟨R, e, b⟩ := inS_BL hO K.length k k0 k1 (by omega) hs
    rw [e]; exact BL.single hO hk hs ho b
  unfold backR
  by_cases c : deep = true ∧ l ≠ []
  · rw [if_pos c]; exact hl.resolve_left c.2
  · rw [if_neg c]
    cases hf : l.find? (fun k => decide (rd P k = up) && decide (rd K k ≤ 2)) with
    | some k =>
      have hp := List.find?_some hf
      have hm := List.mem_of_find?_eq_some hf
      rw [Bool.and_eq_true, decide_eq_true_eq, decide_eq_true_eq] at hp
      have hb := hl.resolve_left (fun e => by rw [e] at hm; cases hm)
      obtain ⟨k0, k1, k2, _⟩ := hb.el k hm
      exact step k (kids_of_rd k0 (by have := hO.1; omega) hp.1) k2
    | none =>
      have h0' := hO.2.2.2.1 up hk
      show BL K P up (if 0 ≤ initial K P up then inS K P K.length (initial K P up) else [])
      rw [if_pos h0']
      rcases initial_cases K P up with e | ⟨e, e'⟩
      · omega
      · exact step _ e e'
omit hO in
theorem inA_solid {Q : List Int} {a : Int} (h0 : 0 ≤ a) (h1 : a < K.length) (hs : solidB (rd K a) = true) : inA K P Q a = inS K P K.length a := by
  have := solidB_iff.1 hs
  unfold inA
  rw [if_neg (by omega), if_neg (by omega)]
theorem inA_hist {Q : List Int} (hQ : PastOk K P Q) {a : Int} (h0 : 0 ≤ a) (h1 : a < K.length) (hs : ¬ solidB (rd K a) = true) : BL K P (rd P a) (inA K P Q a) := by
  obtain ⟨p0, p1, p2, p3⟩ := hist_par hO h0 h1 hs
  have := rd_range hO h0 h1
  have hs' := mt (solid_of hO h0 h1).2 hs
  unfold inA
  by_cases c : rd K a = 3
  · rw [if_pos c]; exact back_BL hO p0 (by omega) p2 p3 (hQ _ p0 (by omega)) false
  · rw [if_neg c, if_pos (by omega)]; exact back_BL hO p0 (by omega) p2 p3 (hQ _ p0 (by omega)) true

/-- The kid on the way down to z. -/
theorem way_kid {z a : Int} (hz0 : 0 ≤ z) (hz1 : z < K.length) (hu : Un P z a) (hne : z ≠ a) : ∃ k, (kids P a).filter (fun k => unB P z k) = [k] ∧ k ∈ kids P a ∧ Un P z k := by
  have hT := hO.tree
  have hn := hO.1
  obtain ⟨j, h1, h2, h3⟩ := hu.kid hne
  have hj : (j : Int) ∈ kids P a := mem_kids.2 ⟨j, rfl, h1, h2⟩
  refine ⟨j, ?_, hj, h3⟩
  have hall : ∀ x ∈ (kids P a).filter (fun k => unB P z k), x = (j : Int) := fun x hx => by
    obtain ⟨a1, a2⟩ := List.mem_filter.1 hx
    exact sib_eq hO a1 hj ((unB_iff hT (by omega) (by omega)).1 a2) h3
  have hmem : (j : Int) ∈ (kids P a).filter (fun k => unB P z k) := List.mem_filter.2 ⟨hj, (unB_iff hT (by omega) (by omega)).2 h3⟩
  have hnd : ((kids P a).filter (fun k => unB P z k)).Nodup := List.Pairwise.filter _ (kids_nodup P a)
  match h : (kids P a).filter (fun k => unB P z k) with
  | [] => rw [h] at hmem; cases hmem
  | [x] => rw [h] at hall; rw [hall x (List.mem_singleton.2 rfl)]
  | x :: y :: L =>
    rw [h] at hall hnd
    have e1 := hall x (List.mem_cons_self ..)
    have e2 := hall y (List.mem_cons_of_mem _ (List.mem_cons_self ..))
    exact absurd (e1.trans e2.symm) (by have := (List.nodup_cons.1 hnd).1; intro e; exact this (e ▸ List.mem_cons_self ..))

theorem path_BL {Q : List Int} (hQ : PastOk K P Q) {z : Int} (hz0 : 0 ≤ z) (hz1 : z < K.length) : ∀ (f : Nat) (a : Int), 0 ≤ a → a < K.length → (K.length : Int) - a ≤ f → Un P z a →
    (∀ x ∈ inA K P Q z, x ∈ pathR K P Q z f a) ∧ ((a = z ∧ ¬ solidB (rd K z) = true ∧ pathR K P Q z f a = inA K P Q z) ∨ (solidB (rd K a) = true ∧ ∃ R, pathR K P Q z f a = a :: R ∧ BL K P a R)) := by
  have hT := hO.tree
  have hn := hO.1
  intro f
  induction f with
  | zero => intro a h0 h1 h2; omega
  | succ f ih =>
    intro a h0 h1 h2 hu
    rw [pathR]
    by_cases e : a = z
    · subst e
      rw [if_pos rfl]
      refine ⟨fun x hx => hx, ?_⟩
      by_cases hs : solidB (rd K a) = true
      · right
        rw [inA_solid h0 h1 hs]
        exact ⟨hs, inS_BL hO K.length a h0 h1 (by omega) hs⟩
      · exact .inl ⟨rfl, hs, rfl⟩
    · rw [if_neg e]
      obtain ⟨k, hf, hk, hzk⟩ := way_kid hO hz0 hz1 hu (fun h => e h.symm)
      obtain ⟨k0, k1, k2, _, _, kc⟩ := hO.kid hk
      obtain ⟨hsa, hsk⟩ := kc (by omega)
      obtain ⟨ih1, ih2⟩ := ih k k0 k1 (by omega) hzk
      rw [flatMap_if (p := fun k => unB P z k), hf]
      refine ⟨fun x hx => ?_, .inr ⟨hsa, _, rfl, ?_⟩⟩
      · refine List.mem_cons_of_mem _ (List.mem_append_left _ ?_)
        rw [List.flatMap_cons]
        exact List.mem_append_left _ (ih1 x hx)
      · rcases solidB_iff.1 hsa with h1' | h2'
        · rw [flatMap_nil' (f := fun k => if rd K a = 2 ∧ unB P z k = false then inA K P Q k else []) (fun x _ => if_neg (fun h => by omega)), List.append_nil, List.flatMap_cons, List.flatMap_nil, List.append_nil]
          rcases ih2 with ⟨ez, hh, e2⟩ | ⟨hs, R, e2, b⟩
          · rw [e2]
            have := inA_hist hO hQ hz0 hz1 hh
            rw [← ez, (mem_kids_rd hk).2.2, ez] at this
            exact this
          · rw [e2]
            exact BL.single hO hk hs ((one_of h0).2 h1') b
        · have sol : ∀ k ∈ kids P a, solidB (rd K k) = true := fun k hk => by
            obtain ⟨_, _, _, _, _, x⟩ := hO.kid hk
            exact ((x (by omega)).2).resolve_right (by omega)
          obtain ⟨hs, R, e2, b⟩ : solidB (rd K k) = true ∧ ∃ R, pathR K P Q z f k = k :: R ∧ BL K P k R := by
            rcases ih2 with ⟨ez, hh, _⟩ | h
            · exact absurd (ez ▸ sol k hk) hh
            · exact h
          have eB : (kids P a).flatMap (fun k => if rd K a = 2 ∧ unB P z k = false then inA K P Q k else []) = ((kids P a).filter (fun k => !unB P z k)).flatMap (fun k => k :: (inA K P Q k).tail) := by
            rw [← flatMap_if]
            refine flatMap_same (fun x hx => ?_)
            by_cases u : unB P z x = true
            · rw [if_neg (by rw [u]; simp), if_neg (by rw [u]; simp)]
            · rw [if_pos ⟨h2', eq_false_of_ne_true u⟩, if_pos (by simp [u])]
              obtain ⟨x0, x1, _⟩ := hO.kid hx
              rw [inA_solid x0 x1 (sol x hx)]
              obtain ⟨R, e, _⟩ := inS_BL hO K.length x x0 x1 (by omega) (sol x hx)
              rw [e]; rfl
          have eA : ([k].flatMap (pathR K P Q z f)) = [k].flatMap (fun k' => k' :: (fun k' => if k' = k then R else (inA K P Q k').tail) k') := by
            rw [List.flatMap_cons, List.flatMap_cons, List.flatMap_nil, List.flatMap_nil, e2]; simp
          have hnk : k ∉ (kids P a).filter (fun k => !unB P z k) := fun h => by
            have := (List.mem_filter.1 h).2
            rw [(unB_iff hT (by omega) (by omega)).2 hzk] at this
            exact absurd this (by simp)
          have eB' : ((kids P a).filter (fun k => !unB P z k)).flatMap (fun k => k :: (inA K P Q k).tail) = ((kids P a).filter (fun k => !unB P z k)).flatMap (fun k' => k' :: (fun k' => if k' = k then R else (inA K P Q k').tail) k') := flatMap_same (fun x hx => by
            have hxk : x ≠ k := fun h => hnk (h ▸ hx)
            simp only [if_neg hxk])
          rw [eB, eB', eA, ← List.flatMap_append]
          refine BL.some hO _ _ ?_ (fun x hx => ?_) (.inr (.inr ⟨?_, fun m hm => ?_⟩))
          · rw [List.singleton_append, List.nodup_cons]
            exact ⟨hnk, List.Pairwise.filter _ (kids_nodup P a)⟩
          · rw [List.singleton_append, List.mem_cons] at hx
            rcases hx with rfl | hx
            · refine ⟨hk, hs, ?_⟩
              simp only [if_true]; exact b
            · have hx' := (List.mem_filter.1 hx).1
              have hxk : x ≠ k := fun h => hnk (h ▸ hx)
              refine ⟨hx', sol x hx', ?_⟩
              simp only [if_neg hxk]
              obtain ⟨x0, x1, _⟩ := hO.kid hx'
              rw [inA_solid x0 x1 (sol x hx')]
              obtain ⟨R, e, b⟩ := inS_BL hO K.length x x0 x1 (by omega) (sol x hx')
              rw [e]; exact b
          · rw [Bool.eq_false_iff]; intro h; rw [one_of h0] at h; omega
          · rw [List.singleton_append, List.mem_cons]
            by_cases u : unB P z m = true
            · left
              have : m ∈ (kids P a).filter (fun k => unB P z k) := List.mem_filter.2 ⟨hm, u⟩
              rw [hf] at this
              exact List.mem_singleton.1 this
            · right
              exact List.mem_filter.2 ⟨hm, by simp [u]⟩
theorem enter_BL {Q : List Int} (hQ : PastOk K P Q) {d z : Int} (hz0 : 0 ≤ z) (hz1 : z < K.length) (hd : one K d = true) (hu : Un P z d) (hne : z ≠ d) :
    BL K P d (enterL K P Q d z) ∧ (∀ x ∈ inA K P Q z, x ∈ enterL K P Q d z) := by
  obtain ⟨k, hf, hk, hzk⟩ := way_kid hO hz0 hz1 hu hne
  obtain ⟨k0, k1, k2, _⟩ := hO.kid hk
  obtain ⟨h1, h2⟩ := path_BL hO hQ hz0 hz1 K.length k k0 k1 (by omega) hzk
  unfold enterL
  rw [flatMap_if (p := fun k => unB P z k), hf, List.flatMap_cons, List.flatMap_nil, List.append_nil]
  refine ⟨?_, h1⟩
  rcases h2 with ⟨e, hh, e2⟩ | ⟨hs, R, e2, b⟩
  · rw [e2]
    have := inA_hist hO hQ hz0 hz1 hh
    rw [← e, (mem_kids_rd hk).2.2, e] at this
    exact this
  · rw [e2]; exact BL.single hO hk hs hd b
theorem start_BL : BL K P (-1) (startL K P) ∧ ∃ R, startL K P = initial K P (-1) :: R := by
  have hk : kids P (-1) ≠ [] := fun e => by
    have hn := hO.1
    have h1 := hO.2.1
    obtain ⟨_, _, b1, b2, _⟩ := okS_iff.1 (hO.2.2.1 0 (by omega))
    have : (0 : Int) ∈ kids P (-1) := mem_kids.2 ⟨0, rfl, by omega, by omega⟩
    rw [e] at this; cases this
  have h0 := hO.2.2.2.1 (-1) hk
  unfold startL
  rw [if_pos h0]
  rcases initial_cases K P (-1) with e | ⟨e, e'⟩
  · omega
  · obtain ⟨k0, k1, _⟩ := hO.kid e
    obtain ⟨R, e1, b⟩ := inS_BL hO K.length _ k0 k1 (by omega) e'
    rw [e1]
    exact ⟨BL.single hO e e' rfl b, R, rfl⟩
end
end Go.Proofs.Ytnomeokicfpidaa.M
/-
  A set is a configuration just if it lies in the top as it is to be. Conditions: a shape as Of makes it.
-/
namespace Go.Proofs.Ytnomeokicfpidaa.M
open Go.RowKit Go.Proofs.YtnomeokicfpidaaW.PrintWords Go.Proofs.YtnomeokicfpidaaW.PrintLast Go.Proofs.YtnomeokicfpidaaW.PrintMore
set_option linter.unusedVariables false

theorem proper_LP {K P : List Int} (hI : Inv K P) (s : Nat) : properB K P s = true ↔ LP K P (-1) s := by
  have hT := hI.tree
  have hn := hI.1
  unfold properB
  rw [Bool.and_eq_true, decide_eq_true_eq, Bool.and_eq_true, List.all_eq_true]
  constructor
  · rintro ⟨h1, h2, h3⟩
    have h3' : ∀ j : Nat, s.testBit j = true → j < K.length ∧ atB K P s j = true := by
      intro j hj
      have : j < K.length := by
        rcases Nat.lt_or_ge j K.length with h | h
        · exact h
        · have := Nat.testBit_lt_two_pow (Nat.lt_of_lt_of_le h1 (Nat.pow_le_pow_right (by decide : 0 < 2) h))
          rw [hj] at this; cases this
      exact ⟨this, h3 j (List.mem_range'_1.2 ⟨by omega, by omega⟩)⟩
    have at' : ∀ j : Nat, s.testBit j = true → solidB (K.getD j 0) = true ∧ (P.getD j 0 = -1 ∨ s.testBit (P.getD j 0).toNat = true) ∧ heldB K P s (j : Int) (K.getD j 0 == 1) = true := by
      intro j hj
      have := (h3' j hj).2
      unfold atB at this
      rw [hj, Bool.not_true, Bool.false_or, Bool.and_eq_true, Bool.and_eq_true, Bool.or_eq_true, beq_iff_eq] at this
      exact this
    refine ⟨fun j hj => ?_, ?_, fun j hj => ?_⟩
    · have hjn := (h3' j hj).1
      obtain ⟨a1, a2, a3⟩ := at' j hj
      have ht := hT j (by omega)
      refine ⟨hjn, by omega, Un.top hT (j + 1) (j : Int) (by omega) (by omega) (by omega), a1, ?_⟩
      rcases a2 with a2 | a2
      · exact .inl a2
      · by_cases e : P.getD j 0 = -1
        · exact .inl e
        · exact .inr ⟨by omega, a2⟩
    · rw [show one K (-1) = true from rfl]; exact h2
    · rw [one_nat]; exact (at' j hj).2.2
  · intro h
    refine ⟨Nat.lt_pow_two_of_testBit s (fun i hi => eq_false_of_ne_true fun hb => by have := (h.mem i hb).1; omega), ?_, fun j hj => ?_⟩
    · have := h.own
      rwa [show one K (-1) = true from rfl] at this
    · unfold atB
      by_cases hb : s.testBit j = true
      · obtain ⟨b1, b2, b3, b4, b5⟩ := h.mem j hb
        have b6 := h.all j hb
        rw [one_nat] at b6
        rw [hb, b4, b6]
        rcases b5 with b5 | b5
        · rw [b5]; rfl
        · rw [b5.2]; simp
      · rw [eq_false_of_ne_true hb]; rfl
end Go.Proofs.Ytnomeokicfpidaa.M
/-
  A set stands in the list of the configurations just if it is one. Conditions: a shape as Of makes it.
-/
namespace Go.Proofs.Ytnomeokicfpidaa.M
open Go.RowKit Go.Proofs.YtnomeokicfpidaaW.PrintWords Go.Proofs.YtnomeokicfpidaaW.PrintLast Go.Proofs.YtnomeokicfpidaaW.PrintMore
set_option linter.unusedVariables false

theorem tb_or {k s j : Nat} : (2 ^ k ||| s).testBit j = true ↔ k = j ∨ s.testBit j = true := by
  rw [Nat.testBit_or, Nat.testBit_two_pow, Bool.or_eq_true, decide_eq_true_eq]
def orL (g : Int → Nat) : List Int → Nat
  | [] => 0
  | k :: L => g k ||| orL g L
theorem tb_orL {g : Int → Nat} {j : Nat} : ∀ {L : List Int}, (orL g L).testBit j = true ↔ ∃ k ∈ L, (g k).testBit j = true
  | [] => by simp [orL]
  | x :: L => by
    rw [orL, Nat.testBit_or, Bool.or_eq_true, tb_orL (L := L)]
    constructor
    · rintro (h | ⟨k, hk, h⟩)
      · exact ⟨x, List.mem_cons_self .., h⟩
      · exact ⟨k, List.mem_cons_of_mem _ hk, h⟩
    · rintro ⟨k, hk, h⟩
      rcases List.mem_cons.1 hk with rfl | hk
      · exact .inl h
      · exact .inr ⟨k, hk, h⟩
theorem orL_congr {g g' : Int → Nat} : ∀ {L : List Int}, (∀ k ∈ L, g k = g' k) → orL g L = orL g' L
  | [], _ => rfl
  | x :: L, h => by rw [orL, orL, h x (List.mem_cons_self ..), orL_congr (fun k hk => h k (List.mem_cons_of_mem _ hk))]
theorem mem_prodL {F : Int → List Nat} {s : Nat} : ∀ {L : List Int}, L.Nodup → (s ∈ prodL (L.map F) ↔ ∃ g : Int → Nat, (∀ k ∈ L, g k ∈ F k) ∧ s = orL g L)
  | [], _ => by
    simp only [List.map_nil, prodL, List.mem_singleton, orL]
    exact ⟨fun h => ⟨fun _ => 0, fun k hk => (List.not_mem_nil hk).elim, h⟩, fun ⟨_, _, h⟩ => h⟩
  | x :: L, hd => by
    obtain ⟨h1, h2⟩ := List.nodup_cons.1 hd
    simp only [List.map_cons, prodL, List.mem_flatMap, List.mem_map]
    constructor
    · rintro ⟨a, ha, y, hy, rfl⟩
      obtain ⟨g, hg, rfl⟩ := (mem_prodL h2).1 hy
      refine ⟨fun k => if k = x then a else g k, fun k hk => ?_, ?_⟩
      · rcases List.mem_cons.1 hk with rfl | hk
        · simp only [if_true]; exact ha
        · have : k ≠ x := fun e => h1 (e ▸ hk)
          simp only [if_neg this]; exact hg k hk
      · rw [orL]
        simp only [if_true]
        rw [orL_congr (g := fun k => if k = x then a else g k) (g' := g) (L := L) (fun k hk => if_neg (fun e : k = x => h1 (e ▸ hk)))]
    · rintro ⟨g, hg, rfl⟩
      exact ⟨g x, hg x (List.mem_cons_self ..), orL g L, (mem_prodL h2).2 ⟨g, fun k hk => hg k (List.mem_cons_of_mem _ hk), rfl⟩, rfl⟩

open Classical in
/-- What of a set lies in a state. -/
noncomputable def restr (K P : List Int) (s : Nat) (k : Int) : Nat := mkB (fun j => s.testBit j && decide (Un P (j : Int) k ∧ (j : Int) ≠ k)) K.length
open Classical in
theorem tb_restr {K P : List Int} {s : Nat} {k : Int} {j : Nat} : (restr K P s k).testBit j = true ↔ j < K.length ∧ s.testBit j = true ∧ Un P (j : Int) k ∧ (j : Int) ≠ k := by
  unfold restr
  rw [testBit_mkB, Bool.and_eq_true, Bool.and_eq_true, decide_eq_true_eq, decide_eq_true_eq]

section
variable {K P : List Int} (hI : Inv K P)
include hI
theorem LP.down {a : Int} {s : Nat} (h : LP K P a s) {k : Nat} (hk : k < K.length) (ep : P.getD k 0 = a) (hb : s.testBit k = true) : LP K P (k : Int) (restr K P s k) := by
  have hT := hI.tree
  have hn := hI.1
  have agree : ∀ j : Int, Un P j (k : Int) → ∀ x ∈ kids P j, s.testBit x.toNat = (restr K P s k).testBit x.toNat := by
    intro j hj x hx
    obtain ⟨m, rfl, m1, m2⟩ := mem_kids.1 hx
    rw [Int.toNat_natCast, Bool.eq_iff_iff, tb_restr]
    have hu : Un P (m : Int) (k : Int) := .up (by omega) (by omega) (by rw [rd_nat, m2]; exact hj)
    constructor
    · intro hm
      refine ⟨by omega, hm, hu, fun e => ?_⟩
      have := hj.le hT
      have := hT m m1
      omega
    · exact fun h => h.2.1
  refine ⟨fun j hj => ?_, ?_, fun j hj => ?_⟩
  · obtain ⟨j1, j2, j3, j4⟩ := tb_restr.1 hj
    obtain ⟨b1, b2, b3, b4, b5⟩ := h.mem j j2
    refine ⟨j1, j4, j3, b4, ?_⟩
    by_cases e : P.getD j 0 = (k : Int)
    · exact .inl e
    · right
      obtain ⟨c1, c2, c3⟩ := j3.cases' j4
      rw [rd_nat] at c3
      have hp0 : 0 ≤ P.getD j 0 := by have := c3.le hT; omega
      refine ⟨hp0, tb_restr.2 ⟨by have := hT j (by omega); omega, ?_, by rw [show (((P.getD j 0).toNat : Nat) : Int) = P.getD j 0 by omega]; exact c3, by omega⟩⟩
      rcases b5 with b5 | b5
      · have l1 := c3.le hT
        have l2 := hT k (by omega)
        omega
      · exact b5.2
  · rw [← heldB_congr (agree k (.refl _))]; exact h.all k hb
  · obtain ⟨j1, j2, j3, j4⟩ := tb_restr.1 hj
    rw [← heldB_congr (agree j j3)]; exact h.all j j2

theorem mem_confs : ∀ (f : Nat) (a : Int), -1 ≤ a → a < K.length → (K.length : Int) - a ≤ f → ∀ s, s ∈ confs K P f a ↔ LP K P a s := by
  have hT := hI.tree
  have hn := hI.1
  intro f
  induction f with
  | zero => intro a h0 h1 h2; omega
  | succ f ih =>
    intro a h0 h1 h2 s
    rw [confs]
    by_cases hs : sk K P a = []
    · rw [if_pos hs, List.mem_singleton]
      have hk := sk_nil hI hs
      constructor
      · rintro rfl
        refine ⟨fun j hj => by simp at hj, ?_, fun j hj => by simp at hj⟩
        unfold heldB; rw [hk]; simp [cnt]
      · intro h
        refine Nat.eq_of_testBit_eq fun j => ?_
        rw [Nat.zero_testBit]
        refine eq_false_of_ne_true fun hj => ?_
        obtain ⟨b1, b2, b3, _⟩ := h.mem j hj
        obtain ⟨k, x, y, _⟩ := b3.kid b2
        have : (k : Int) ∈ kids P a := mem_kids.2 ⟨k, rfl, x, y⟩
        rw [hk] at this; cases this
    · rw [if_neg hs]
      have rc : ∀ k : Nat, k < K.length → P.getD k 0 = a → ∀ s, s ∈ confs K P f (k : Int) ↔ LP K P (k : Int) s := by
        intro k hk ek s
        have := hT k (by omega)
        exact ih k (by omega) (by omega) (by omega) s
      by_cases ha : 0 ≤ a ∧ rd K a = 2
      · rw [if_pos ha]
        have hone : one K a = false := (one_false hI hs).2 ha
        have hall : ∀ x ∈ kids P a, x ∈ sk K P a := fun x hx => List.mem_filter.2 ⟨hx, by
          obtain ⟨_, _, _, h4⟩ := kid_par hI hx (by omega)
          rcases h4 with h4 | h4
          · exact h4
          · omega⟩
        rw [mem_prodL (show (sk K P a).Nodup from List.Pairwise.filter _ (kids_nodup P a))]
        constructor
        · rintro ⟨g, hg, rfl⟩
          have hg' : ∀ k : Nat, (k : Int) ∈ sk K P a → ∃ t, LP K P (k : Int) t ∧ g (k : Int) = 2 ^ k ||| t := by
            intro k hk
            obtain ⟨t, ht, e⟩ := List.mem_map.1 (hg _ hk)
            obtain ⟨m, em, m1, m2⟩ := mem_kids.1 (List.mem_filter.1 hk).1
            obtain rfl : k = m := by omega
            exact ⟨t, (rc k (by omega) m2 t).1 ht, by rw [← e, Int.toNat_natCast]⟩
          have bits : ∀ j : Nat, (orL g (sk K P a)).testBit j = true ↔ ∃ k : Nat, (k : Int) ∈ sk K P a ∧ (k = j ∨ ∃ t, LP K P (k : Int) t ∧ g (k : Int) = 2 ^ k ||| t ∧ t.testBit j = true) := by
            intro j
            rw [tb_orL]
            constructor
            · rintro ⟨x, hx, hb⟩
              obtain ⟨m, rfl, m1, m2⟩ := mem_kids.1 (List.mem_filter.1 hx).1
              obtain ⟨t, ht, e⟩ := hg' m hx
              rw [e, tb_or] at hb
              rcases hb with hb | hb
              · exact ⟨m, hx, .inl hb⟩
              · exact ⟨m, hx, .inr ⟨t, ht, e, hb⟩⟩
            · rintro ⟨k, hk, hb⟩
              refine ⟨(k : Int), hk, ?_⟩
              rcases hb with rfl | ⟨t, ht, e, hb⟩
              · obtain ⟨t, ht, e⟩ := hg' k hk
                rw [e, tb_or]; exact .inl rfl
              · rw [e, tb_or]; exact .inr hb
          have skk : ∀ k : Nat, (k : Int) ∈ sk K P a → k < K.length ∧ P.getD k 0 = a ∧ solidB (K.getD k 0) = true := by
            intro k hk
            obtain ⟨h1, h2⟩ := List.mem_filter.1 hk
            obtain ⟨m, em, m1, m2⟩ := mem_kids.1 h1
            obtain rfl : k = m := by omega
            rw [rd_nat] at h2
            exact ⟨by omega, m2, h2⟩
          -- below a state of one's own the whole is as the part
          have agree : ∀ (k : Nat) (t : Nat), (k : Int) ∈ sk K P a → LP K P (k : Int) t → g (k : Int) = 2 ^ k ||| t → ∀ j : Int, Un P j (k : Int) → ∀ x ∈ kids P j, (orL g (sk K P a)).testBit x.toNat = t.testBit x.toNat := by
            intro k t hk ht e j hj x hx
            obtain ⟨m, rfl, m1, m2⟩ := mem_kids.1 hx
            obtain ⟨k1, k2, _⟩ := skk k hk
            have hu : Un P (m : Int) (k : Int) := .up (by omega) (by omega) (by rw [rd_nat, m2]; exact hj)
            have hmk : m ≠ k := fun e' => by
              have := hj.le hT
              have := hT m m1
              omega
            rw [Int.toNat_natCast, Bool.eq_iff_iff, bits]
            constructor
            · rintro ⟨k', hk', hb⟩
              obtain ⟨k1', k2', _⟩ := skk k' hk'
              have hu' : Un P (m : Int) (k' : Int) := by
                rcases hb with rfl | ⟨t', ht', _, hb⟩
                · exact .refl _
                · exact (ht'.mem m hb).2.2.1
              obtain rfl : k = k' := Un.sib hT (by omega) (by omega) k2 k2' hu hu'
              rcases hb with hb | ⟨t', ht', e', hb⟩
              · exact absurd hb.symm hmk
              · have : (2 ^ k ||| t').testBit m = (2 ^ k ||| t).testBit m := by rw [← e, ← e']
                have h3 : (2 ^ k ||| t).testBit m = true := by rw [← this, tb_or]; exact .inr hb
                rcases tb_or.1 h3 with h3 | h3
                · exact absurd h3.symm hmk
                · exact h3
            · intro hb
              exact ⟨k, hk, .inr ⟨t, ht, e, hb⟩⟩
          refine ⟨fun j hj => ?_, ?_, fun j hj => ?_⟩
          · obtain ⟨k, hk, hb⟩ := (bits j).1 hj
            obtain ⟨k1, k2, k3⟩ := skk k hk
            have hka := hT k (by omega)
            rcases hb with rfl | ⟨t, ht, e, hb⟩
            · exact ⟨k1, by omega, by have := Un.par (P := P) (k := k) (by omega); rwa [k2] at this, k3, .inl k2⟩
            · obtain ⟨b1, b2, b3, b4, b5⟩ := ht.mem j hb
              have l := b3.le hT
              refine ⟨b1, by omega, b3.trans (by have := Un.par (P := P) (k := k) (by omega); rwa [k2] at this), b4, ?_⟩
              rcases b5 with b5 | ⟨b5, b6⟩
              · exact .inr ⟨by omega, (bits _).2 ⟨k, hk, .inl (by omega)⟩⟩
              · exact .inr ⟨b5, (bits _).2 ⟨k, hk, .inr ⟨t, ht, e, b6⟩⟩⟩
          · rw [hone]
            refine held_all.2 fun x hx => ?_
            obtain ⟨m, rfl, m1, m2⟩ := mem_kids.1 hx
            exact (bits _).2 ⟨m, hall _ hx, .inl (by omega)⟩
          · obtain ⟨k, hk, hb⟩ := (bits j).1 hj
            obtain ⟨t, ht, e⟩ := hg' k hk
            rcases hb with rfl | ⟨t', ht', e', hb⟩
            · rw [heldB_congr (agree k t hk ht e k (.refl _))]; exact ht.own
            · rw [heldB_congr (agree k t' hk ht' e' j (ht'.mem j hb).2.2.1)]; exact ht'.all j hb
        · intro h
          have own := held_all.1 (by have := h.own; rwa [hone] at this)
          refine ⟨fun k => 2 ^ k.toNat ||| restr K P s k, fun x hx => ?_, ?_⟩
          · obtain ⟨m, rfl, m1, m2⟩ := mem_kids.1 (List.mem_filter.1 hx).1
            refine List.mem_map.2 ⟨restr K P s m, (rc m (by omega) m2 _).2 (h.down hI (by omega) m2 ?_), rfl⟩
            have := own _ (List.mem_filter.1 hx).1
            rwa [Int.toNat_natCast] at this
          · refine Nat.eq_of_testBit_eq fun j => ?_
            rw [Bool.eq_iff_iff, tb_orL]
            constructor
            · intro hj
              obtain ⟨b1, b2, b3, b4, b5⟩ := h.mem j hj
              obtain ⟨k, x, y, z⟩ := b3.kid b2
              refine ⟨(k : Int), hall _ (mem_kids.2 ⟨k, rfl, x, y⟩), ?_⟩
              rw [Int.toNat_natCast, tb_or]
              by_cases e : k = j
              · exact .inl e
              · exact .inr (tb_restr.2 ⟨b1, hj, z, by omega⟩)
            · rintro ⟨x, hx, hb⟩
              obtain ⟨m, rfl, m1, m2⟩ := mem_kids.1 (List.mem_filter.1 hx).1
              rw [Int.toNat_natCast, tb_or] at hb
              rcases hb with rfl | hb
              · have := own _ (List.mem_filter.1 hx).1
                rwa [Int.toNat_natCast] at this
              · exact (tb_restr.1 hb).2.1
      · rw [if_neg ha]
        have hone : one K a = true := by
          cases h : one K a with
          | true => rfl
          | false => exact absurd ((one_false hI hs).1 h) ha
        rw [List.mem_flatMap]
        constructor
        · rintro ⟨x, hx, hm⟩
          obtain ⟨hx1, hx2⟩ := List.mem_filter.1 hx
          obtain ⟨k, rfl, k1, k2⟩ := mem_kids.1 hx1
          obtain ⟨t, ht, rfl⟩ := List.mem_map.1 hm
          rw [Int.toNat_natCast]
          rw [rd_nat] at hx2
          have ht := (rc k (by omega) k2 t).1 ht
          have hka := hT k (by omega)
          have agree : ∀ j : Int, Un P j (k : Int) → ∀ x ∈ kids P j, (2 ^ k ||| t).testBit x.toNat = t.testBit x.toNat := by
            intro j hj x hx
            obtain ⟨m, rfl, m1, m2⟩ := mem_kids.1 hx
            rw [Int.toNat_natCast, Bool.eq_iff_iff, tb_or]
            constructor
            · rintro (e | h)
              · have := hj.le hT
                have := hT m m1
                omega
              · exact h
            · exact .inr
          have hpar : Un P (k : Int) a := by have := Un.par (P := P) (k := k) (by omega); rwa [k2] at this
          refine ⟨fun j hj => ?_, ?_, fun j hj => ?_⟩
          · rcases tb_or.1 hj with rfl | hb
            · exact ⟨by omega, by omega, hpar, hx2, .inl k2⟩
            · obtain ⟨b1, b2, b3, b4, b5⟩ := ht.mem j hb
              have l := b3.le hT
              refine ⟨b1, by omega, b3.trans hpar, b4, ?_⟩
              rcases b5 with b5 | ⟨b5, b6⟩
              · exact .inr ⟨by omega, tb_or.2 (.inl (by omega))⟩
              · exact .inr ⟨b5, tb_or.2 (.inr b6)⟩
          · rw [hone]
            refine held_one.2 (.inr ⟨(k : Int), hx1, by rw [Int.toNat_natCast, tb_or]; exact .inl rfl, fun m hm hb => ?_⟩)
            obtain ⟨m, rfl, m1, m2⟩ := mem_kids.1 hm
            rw [Int.toNat_natCast, tb_or] at hb
            rcases hb with rfl | hb
            · rfl
            · have := Un.sib hT (by omega) m1 k2 m2 (ht.mem m hb).2.2.1 (.refl _)
              omega
          · rcases tb_or.1 hj with rfl | hb
            · rw [heldB_congr (agree k (.refl _))]; exact ht.own
            · rw [heldB_congr (agree j (ht.mem j hb).2.2.1)]; exact ht.all j hb
        · intro h
          have own := held_one.1 (by have := h.own; rwa [hone] at this)
          rcases own with own | ⟨x, hx, hb, hu⟩
          · exfalso
            apply hs
            unfold sk; rw [own]; rfl
          · obtain ⟨k, rfl, k1, k2⟩ := mem_kids.1 hx
            rw [Int.toNat_natCast] at hb
            have hsol := (h.mem k hb).2.2.2.1
            refine ⟨(k : Int), List.mem_filter.2 ⟨hx, by rw [rd_nat]; exact hsol⟩, List.mem_map.2 ⟨restr K P s k, (rc k (by omega) k2 _).2 (h.down hI (by omega) k2 hb), ?_⟩⟩
            refine Nat.eq_of_testBit_eq fun j => ?_
            rw [Int.toNat_natCast, Bool.eq_iff_iff, tb_or]
            constructor
            · rintro (rfl | h')
              · exact hb
              · exact (tb_restr.1 h').2.1
            · intro hj
              obtain ⟨b1, b2, b3, b4, b5⟩ := h.mem j hj
              obtain ⟨m, m1, m2, m3⟩ := b3.kid b2
              have mk : (m : Int) ∈ kids P a := mem_kids.2 ⟨m, rfl, m1, m2⟩
              have mb := h.clos hI m3 (by omega) (by rw [Int.toNat_natCast]; exact hj) (by have := hT m m1; omega) (by have := Un.par m1; rwa [m2] at this)
              have := hu _ mk mb.2
              have e : m = k := by omega
              subst e
              by_cases e : m = j
              · exact .inl e
              · exact .inr (tb_restr.2 ⟨b1, hj, m3, by omega⟩)
end
end Go.Proofs.Ytnomeokicfpidaa.M
/-
  What the statements' Config makes out of numbers: a configuration of the shape. Conditions: a shape as Of makes it, at most 12 states.
-/
namespace Go.Proofs.Ytnomeokicfpidaa.M
open Go.RowKit Go.Proofs.YtnomeokicfpidaaW.PrintWords Go.Proofs.YtnomeokicfpidaaW.PrintLast Go.Proofs.YtnomeokicfpidaaW.PrintMore Go.Proofs.Ytnomeokicfpidaa.Q
set_option linter.unusedVariables false
set_option linter.unusedSectionVars false

/-- A list without repetition of numbers from -1 to below n is not longer than n + 1. -/
theorem pigeon {L : List Int} (hd : L.Nodup) {n : Nat} (h : ∀ x ∈ L, -1 ≤ x ∧ x < n) : L.length ≤ n + 1 := by
  have hN : ((List.range' 0 (n + 1)).map (fun j : Nat => (j : Int) - 1)).Nodup := by
    unfold List.Nodup
    rw [List.pairwise_map]
    refine List.Pairwise.imp ?_ (List.nodup_range' (s := 0) (n := n + 1) 1)
    intro x y h e
    exact h (by omega)
  have hp : L.Perm (((List.range' 0 (n + 1)).map (fun j : Nat => (j : Int) - 1)).filter (fun x => decide (x ∈ L))) := by
    refine (List.perm_ext_iff_of_nodup hd (List.Pairwise.filter _ hN)).2 fun x => ?_
    rw [List.mem_filter, decide_eq_true_eq, List.mem_map]
    constructor
    · intro hx
      have := h x hx
      exact ⟨⟨(x + 1).toNat, List.mem_range'_1.2 ⟨by omega, by omega⟩, by omega⟩, hx⟩
    · exact fun h => h.2
  rw [hp.length_eq]
  refine Nat.le_trans (List.length_filter_le _ _) ?_
  rw [List.length_map, List.length_range']; exact Nat.le_refl _

def bs : List Int → Nat → Nat
  | [], s => s
  | x :: L, s => bs L (s ||| 2 ^ x.toNat)
theorem tb_bs {j : Nat} : ∀ {L : List Int} {s : Nat}, (∀ x ∈ L, 0 ≤ x) → ((bs L s).testBit j = true ↔ s.testBit j = true ∨ (j : Int) ∈ L)
  | [], s, _ => by simp [bs]
  | x :: L, s, h => by
    have h0 := h x (List.mem_cons_self ..)
    rw [bs, tb_bs (fun y hy => h y (List.mem_cons_of_mem _ hy)), Nat.or_comm, tb_or, List.mem_cons]
    constructor
    · rintro ((h | h) | h)
      · exact .inr (.inl (by omega))
      · exact .inl h
      · exact .inr (.inr h)
    · rintro (h | h | h)
      · exact .inl (.inr h)
      · exact .inl (.inl (by omega))
      · exact .inr h

structure CI (K P D T : List Int) (s : Nat) : Prop where
  nd : (D ++ T).Nodup
  el : ∀ x ∈ D ++ T, x = -1 ∨ (0 ≤ x ∧ x < K.length ∧ solidB (rd K x) = true ∧ rd P x ∈ D)
  bit : ∀ j : Nat, s.testBit j = true ↔ (j : Int) ∈ D ++ T
  hel : ∀ x ∈ D, heldB K P s x (one K x) = true
  top : (-1 : Int) ∈ D ++ T

section
variable {K P : List Int} (hI : Inv K P)
include hI

theorem CI.step {D T L : List Int} {a : Int} {s s' : Nat} (h : CI K P D (a :: T) s) (hL : ∀ x ∈ L, x ∈ sk K P a) (hd : L.Nodup)
    (hc : sk K P a = [] ∨ (one K a = true ∧ ∃ k, L = [k]) ∨ (one K a = false ∧ L = sk K P a)) (hs : ∀ j : Nat, s'.testBit j = true ↔ s.testBit j = true ∨ (j : Int) ∈ L) :
    CI K P (D ++ [a]) (T ++ L) s' := by
  have hn := hI.1
  have hk : ∀ x ∈ L, ∃ j : Nat, x = j ∧ j < P.length ∧ P.getD j 0 = a ∧ solidB (rd K x) = true := by
    intro x hx
    obtain ⟨h1, h2⟩ := List.mem_filter.1 (hL x hx)
    obtain ⟨j, e, b, c⟩ := mem_kids.1 h1
    exact ⟨j, e, b, c, h2⟩
  have haD : a ∉ D := fun e => (List.nodup_append.1 h.nd).2.2 a e a (List.mem_cons_self ..) rfl
  have hkn : ∀ x : Int, 0 ≤ x → rd P x = a → x ∉ D ++ a :: T := by
    intro x hx hp hm
    rcases h.el x hm with e | ⟨_, _, _, e⟩
    · omega
    · exact haD (hp ▸ e)
  have hap : ∀ x ∈ L, 0 ≤ x ∧ rd P x = a := by
    intro x hx
    obtain ⟨j, e, b, c, _⟩ := hk x hx
    rw [e, rd_nat]; exact ⟨by omega, c⟩
  have e1 : D ++ [a] ++ (T ++ L) = (D ++ a :: T) ++ L := by simp
  refine ⟨?_, ?_, ?_, ?_, ?_⟩
  · rw [e1]
    refine List.nodup_append.2 ⟨h.nd, hd, fun x hx y hy e => ?_⟩
    subst e
    exact hkn x (hap x hy).1 (hap x hy).2 hx
  · rw [e1]
    intro x hx
    rcases List.mem_append.1 hx with hx | hx
    · rcases h.el x hx with e | ⟨a1, a2, a3, a4⟩
      · exact .inl e
      · exact .inr ⟨a1, a2, a3, List.mem_append_left _ a4⟩
    · obtain ⟨j, e, b, c, d⟩ := hk x hx
      obtain ⟨f, g⟩ := hap x hx
      exact .inr ⟨f, by omega, d, by rw [g]; exact List.mem_append_right _ (List.mem_cons_self ..)⟩
  · rw [e1]
    intro j
    rw [hs, h.bit, List.mem_append (s := D ++ a :: T)]
  · intro x hx
    have hkx : ∀ y ∈ kids P x, 0 ≤ y ∧ rd P y = x := by
      intro y hy
      obtain ⟨j, e, b, c⟩ := mem_kids.1 hy
      rw [e, rd_nat]; exact ⟨by omega, c⟩
    rcases List.mem_append.1 hx with hx | hx
    · have := h.hel x hx
      rw [heldB_congr (s' := s)]
      · exact this
      · intro y hy
        obtain ⟨f, g⟩ := hkx y hy
        rw [Bool.eq_iff_iff, hs, show ((y.toNat : Nat) : Int) = y by omega]
        constructor
        · rintro (e | e)
          · exact e
          · have := (hap y e).2
            rw [g] at this
            rw [this] at hx
            exact absurd hx haD
        · exact .inl
    · rw [List.mem_singleton] at hx
      subst hx
      have hb : ∀ y ∈ kids P x, (s'.testBit y.toNat = true ↔ y ∈ L) := by
        intro y hy
        obtain ⟨f, g⟩ := hkx y hy
        rw [hs, h.bit, show ((y.toNat : Nat) : Int) = y by omega]
        constructor
        · rintro (e | e)
          · exact absurd e (hkn y f g)
          · exact e
        · exact .inr
      rcases hc with hc | ⟨h1, k, h2⟩ | ⟨h1, h2⟩
      · have e := sk_nil hI hc
        unfold heldB cnt
        rw [e]; simp
      · rw [h1]
        refine held_one.2 (.inr ⟨k, ?_, ?_, ?_⟩)
        · exact (List.mem_filter.1 (hL k (by rw [h2]; exact List.mem_cons_self ..))).1
        · exact (hb k (List.mem_filter.1 (hL k (by rw [h2]; exact List.mem_cons_self ..))).1).2 (by rw [h2]; exact List.mem_cons_self ..)
        · intro m hm hbm
          have := (hb m hm).1 hbm
          rw [h2, List.mem_singleton] at this
          exact this
      · rw [h1]
        refine held_all.2 fun m hm => (hb m hm).2 ?_
        rw [h2]
        refine List.mem_filter.2 ⟨hm, ?_⟩
        by_cases e : sk K P x = []
        · rw [sk_nil hI e] at hm; cases hm
        · obtain ⟨o1, o2⟩ := (one_false hI e).1 h1
          rcases (kid_par hI hm (by omega)).2.2.2 with z | z
          · exact z
          · omega
  · rw [e1]; exact List.mem_append_left _ h.top

theorem CI.len {D T : List Int} {s : Nat} (h : CI K P D T s) : D.length + T.length ≤ K.length + 1 := by
  rw [← List.length_append]
  refine pigeon h.nd fun x hx => ?_
  rcases h.el x hx with e | ⟨e, f, _⟩ <;> omega

theorem CI.done {D : List Int} {s : Nat} (h : CI K P D [] s) : LP K P (-1) s := by
  have hn := hI.1
  have hb := h.bit
  have he := h.el
  have ht := h.top
  rw [List.append_nil] at hb he ht
  refine ⟨fun j hj => ?_, h.hel (-1) ht, fun j hj => h.hel _ ((hb j).1 hj)⟩
  rcases he _ ((hb j).1 hj) with e | ⟨_, e1, e2, e3⟩
  · omega
  · rw [rd_nat] at e2 e3
    refine ⟨by omega, by omega, Un.top hI.tree (j + 1) (j : Int) (by omega) (by omega) (by omega), e2, ?_⟩
    rcases he _ e3 with f | ⟨f1, f2, _⟩
    · exact .inl f
    · exact .inr ⟨f1, (hb _).2 (by rw [show (((P.getD j 0).toNat : Nat) : Int) = P.getD j 0 by omega]; exact e3)⟩

theorem CI.lt {D T : List Int} {s : Nat} (h : CI K P D T s) : s < 2 ^ K.length := by
  refine Nat.lt_pow_two_of_testBit s (fun i hi => eq_false_of_ne_true fun hb => ?_)
  rcases h.el _ ((h.bit i).1 hb) with e | ⟨_, e, _⟩ <;> omega
end
end Go.Proofs.Ytnomeokicfpidaa.M
-- printed by myprint.py: a program of this repo over the kit's print
namespace Go.Proofs.Ytnomeokicfpidaa.Q
open Go.RowKit Go.Proofs.YtnomeokicfpidaaW.PrintWords Go.Proofs.YtnomeokicfpidaaW.PrintLast Go.Proofs.YtnomeokicfpidaaW.PrintMore
attribute [local go_sem] max2_int min2_int max_two min_two max_three min_three max_four min_four   -- for this text's walks alone
set_option linter.unusedVariables false
set_option linter.unusedSimpArgs false

/-! ### enter_Leave: function 23 -/
def enter_Leave.l0 : Nat → List Int → List Int → Int → Int → Option (List Int)
  | 0, _, _, _, _ => none
  | k + 1, x7, x8, x15, x16 => if x16 < x15 then (if 0 ≤ (wrap64 ((wrap64 ((x8.length : Int) - 1)) - x16)) then (if (wrap64 ((wrap64 ((x8.length : Int) - 1)) - x16)) < (x8.length : Int) then (if x7.length < 17592186044416 then (enter_Leave.l0 k (x7 ++ [rd x8 (wrap64 ((wrap64 ((x8.length : Int) - 1)) - x16))]) x8 x15 (wrap64 (x16 + 1))) else (none)) else (none)) else (none)) else (some x7)
def enter_Leave.f (k : Nat) (l0_0 : List Int) (l0_1 : List Int) (a1 : Int) (a2 : Int) : Option (List Int) := (enter_below.f k l0_0 l0_1 a1 a2).bind fun t102 => (enter_Leave.l0 k ([] : List Int) t102 (t102.length : Int) 0)
theorem enter_Leave.mono_l : ∀ k, (∀ y0 y1 y2 y3, LeO (enter_Leave.l0 k y0 y1 y2 y3) (enter_Leave.l0 (k + 1) y0 y1 y2 y3))
  | 0 => fun _ _ _ _ r h => by simp [enter_Leave.l0] at h
  | k + 1 => by
    have ih0 := enter_Leave.mono_l k
    · intro y0 y1 y2 y3
      unfold enter_Leave.l0
      repeat' first
      | (with_reducible exact ih0 _ _ _ _)
      | (with_reducible exact enter_below.mono _ _ _ _ _)
      | (with_reducible exact LeO.refl _)
      | (with_reducible exact LeO.none _)
      | (with_reducible refine LeO.ite ?_ ?_)
      | (with_reducible refine LeO.bind ?_ (fun _ => ?_))
      | exact ih0 _ _ _ _
      | exact enter_below.mono _ _ _ _ _
      | exact LeO.none _
      | refine LeO.ite ?_ ?_
      | refine LeO.bind ?_ (fun _ => ?_)
theorem enter_Leave.mono : ∀ a0 a1 a2 a3 k, LeO (enter_Leave.f k a0 a1 a2 a3) (enter_Leave.f (k + 1) a0 a1 a2 a3) := by
  intro a0 a1 a2 a3 k
  have ih0 := enter_Leave.mono_l k
  unfold enter_Leave.f
  repeat' first
      | (with_reducible exact ih0 _ _ _ _)
      | (with_reducible exact enter_below.mono _ _ _ _ _)
      | (with_reducible exact LeO.refl _)
      | (with_reducible exact LeO.none _)
      | (with_reducible refine LeO.ite ?_ ?_)
      | (with_reducible refine LeO.bind ?_ (fun _ => ?_))
      | exact ih0 _ _ _ _
      | exact enter_below.mono _ _ _ _ _
      | exact LeO.none _
      | refine LeO.ite ?_ ?_
      | refine LeO.bind ?_ (fun _ => ?_)
set_option maxHeartbeats 8000000 in
set_option maxRecDepth 100000 in
theorem enter_Leave.calls (k : Nat) (A0_0 : Option Addr) (c0_0 : Nat) (l0_0 : List Int) (A0_1 : Option Addr) (c0_1 : Nat) (l0_1 : List Int) (a1 : Int) (a2 : Int) (r : List Int) (w : World) (hr0_0 : Kd.C (Kd.int .i64) w A0_0 l0_0.length l0_0) (hc0_0 : l0_0.length ≤ c0_0) (hr0_1 : Kd.C (Kd.int .i64) w A0_1 l0_1.length l0_1) (hc0_1 : l0_1.length ≤ c0_1) (h : enter_Leave.f k l0_0 l0_1 a1 a2 = some r) :
    Calls Try.prog 23 #[.agg #[.slice A0_0 l0_0.length c0_0, .slice A0_1 l0_1.length c0_1], .int .u32 a1, .int .i64 a2] w fun e w' => ∃ v0_ : Value, e = .returned (v0_) ∧ Kd.R (Kd.int .i64) 3 w' w.heap.size (fun _ => True) v0_ r ∧ Below w.heap.size w w' := by
  have hu24 := Try.underlying24
  have HR0_0 := Aside0.mk hr0_0
  have HC0_0 := Aside0.mk hc0_0
  clear hr0_0 hc0_0
  have HR0_1 := Aside0.mk hr0_1
  have HC0_1 := Aside0.mk hc0_1
  clear hr0_1 hc0_1
  have HB := Aside0.mk (Below.refl w.heap.size w)
  have H : ((enter_below.f k l0_0 l0_1 a1 a2).bind fun t102 => (enter_Leave.l0 k ([] : List Int) t102 (t102.length : Int) 0)) = some r := h
  clear h
  replace H := Option.bind_eq_some_iff.mp H
  obtain ⟨t102, A40, H⟩ := H
  replace H : (enter_Leave.l0 k ([] : List Int) t102 (t102.length : Int) 0) = some r := H
  have A4 := Aside0.mk A40
  clear A40
  have H' := Aside0.mk H
  clear H
  go_enter Try.func23, Try.ntmps23
  go_wp2_with (first | ((with_reducible refine gate_dst (N := 3) rfl ?_); refine box_event ?hg (N := 3) ?hd (cs := #[.slice A0_0 l0_0.length c0_0, .slice A0_1 l0_1.length c0_1]) (t := 24) ?hr ?_; (case hd => rfl); (case hg => rfl); (case hr => first | (go_simp; done) | (go_simp; rfl)); intro gb101 hg w5 hbox hb; have n0_ := Aside0.mk (below_step (by repeat (first | (with_reducible first | exact HB.out | apply below_alloc | apply pw_below_drewN | apply below_drew1) | exact HB.out)) hb); have n1_ := Aside0.mk (hbox); have n2_ := Aside0.mk ((by rw [hg]; exact (below_size (by repeat (first | (with_reducible first | exact HB.out | apply below_alloc | apply pw_below_drewN | apply below_drew1) | exact HB.out))) : w.heap.size ≤ gb101)); have n3_ := Aside0.mk ((by rw [hg]; exact (below_size (by repeat (first | (with_reducible first | exact HB.out | apply below_alloc | apply pw_below_drewN | apply below_drew1) | exact HB.out))) : w.heap.size ≤ gb101)); clear HB; have HB := n0_; have BK101 := n1_; have GW101 := n2_; have GE101 := n3_; clear n0_ n1_ n2_ n3_; clear hb hbox hg; have hcz6_0 : w5.cell? ⟨gb101, 0, none⟩ = some (.slice A0_0 l0_0.length c0_0) := (blk_cell BK101.out 0).trans rfl; have hcz6_1 : w5.cell? ⟨gb101, 1, none⟩ = some (.slice A0_1 l0_1.length c0_1) := (blk_cell BK101.out 1).trans rfl; have hfz6_0 := blk_frozen BK101.out 0; have hfz6_1 := blk_frozen BK101.out 1) | ((with_reducible refine gate_callee (f := 49) rfl ?_); refine goesL_ (some 13) rfl rfl Try.func49 (by kernel_rfl) rfl #[.agg #[.slice A0_0 l0_0.length c0_0, .slice A0_1 l0_1.length c0_1], .int .u32 a1, .int .i64 a2] rfl (by (try simp only [List.map_toArray, List.map_cons, List.map_nil]); first | done | rfl | (simp only [List.length_drop, List.length_take]; rfl)) ?_; (with_reducible refine (enter_below.calls k _ _ l0_0 _ _ l0_1 a1 a2 t102 _ ?side1 ?side2 ?side3 ?side4 A4.out).mono ?_); (case side1 => repeat (first | exact (Kd.C_below HR0_0.out HB.out) | (with_reducible refine Kd.C_alloc ?_ _) | (with_reducible refine Kd.C_drewN ?_ _) | (with_reducible refine Kd.C_drew ?_))); (case side2 => exact HC0_0.out); (case side3 => repeat (first | exact (Kd.C_below HR0_1.out HB.out) | (with_reducible refine Kd.C_alloc ?_ _) | (with_reducible refine Kd.C_drewN ?_ _) | (with_reducible refine Kd.C_drew ?_))); (case side4 => exact HC0_1.out); rintro e w7 ⟨v103, rfl, ho0, hb⟩; refine ⟨_, rfl, ?_⟩; have n0_ := Aside0.mk (Kd.R_lower ho0 (below_size (by repeat (first | (with_reducible first | exact HB.out | apply below_alloc | apply pw_below_drewN | apply below_drew1 | refine below_set ?_ GE101.out) | exact HB.out)))); have n1_ := Aside0.mk (blk_below (g := gb101) (o := .cells #[.slice A0_0 l0_0.length c0_0, .slice A0_1 l0_1.length c0_1] 24 (0, 0)) (by (with_reducible repeat (first | refine blk_drewN ?_ _ | refine blk_drew ?_ | refine blk_alloc ?_ _)); exact BK101.out) hb); have n2_ := Aside0.mk (below_step (by repeat (first | (with_reducible first | exact HB.out | apply below_alloc | apply pw_below_drewN | apply below_drew1 | refine below_set ?_ GE101.out) | exact HB.out)) hb); clear BK101; clear HB; have HO104 := n0_; have BK101 := n1_; have HB := n2_; clear n0_ n1_ n2_; (try clear hb); (try clear hb2); (try clear hk); (try clear hi); (try clear ho0); obtain ⟨Ao8, co8, eo8⟩ := Kd.R_slice HO104.out; subst eo8))
  go_loopg [7, 16] k (fun kq v7 v16 w' => ∃ (x7_1 : List Int) (x16_1 : Int), v16 = .int .i64 x16_1 ∧ Aside0 (enter_Leave.l0 kq x7_1 t102 (t102.length : Int) x16_1 = some r) ∧ Aside0 (kq ≤ k) ∧ Aside0 (Kd.R (Kd.int .i64) 3 w' w.heap.size (fun k_ => some k_ ≠ ((.slice Ao8 t102.length co8) : Value).ownBlock) v7 x7_1) ∧ Aside0 (Kd.R (Kd.int .i64) 3 w' w.heap.size (fun k_ => some k_ ≠ (v7 : Value).ownBlock) (.slice Ao8 t102.length co8) t102) ∧ Aside0 (w'.heap[gb101]? = some (.cells #[(.slice A0_0 l0_0.length c0_0), (.slice A0_1 l0_1.length c0_1)] 24 (0, 0))) ∧ Aside0 (Below w.heap.size w w'))
  case atStart => exact ⟨(([] : List Int)), (0), (by first | rfl | (simp; done) | (simp [*]; done)), H', ⟨Nat.le_refl _⟩, ⟨by first | exact Kd.R_nil _ _ _ _ _ | exact Kd.N_nil _ _ _ _ _ | exact Kd.V_nil _ _ _ _ _ | exact Kd.Q_nil _ _ _ _ _ | exact Kd.S_nil _ _ _ _ _⟩, ⟨by (with_reducible repeat (first | apply Kd.R_alloc | apply Kd.R_drewN | apply Kd.R_drew)); exact Kd.R_mono HO104.out (fun _ hk => (by simp [Value.ownBlock]))⟩, ⟨by (with_reducible repeat (first | refine blk_drewN ?_ _ | refine blk_drew ?_ | refine blk_alloc ?_ _)); exact BK101.out⟩, ⟨by repeat (first | (with_reducible first | exact HB.out | apply below_alloc | apply pw_below_drewN | apply below_drew1 | refine below_set ?_ GE101.out) | exact HB.out)⟩⟩
  case round =>
    clear H'
    try clear c2
    try clear p2
    try clear c4
    try clear hcz6_0
    try clear hcz6_1
    try clear hfz6_0
    try clear hfz6_1
    obtain ⟨x7_1, x16_1, rfl, HA, HK1, HO_7, HO_8, BK101, HB⟩ := hrel
    cases gk with
    | zero => exact absurd HA.out (by simp [enter_Leave.l0])
    | succ k1 =>
      have H := HA.out
      clear HA
      simp only [enter_Leave.l0] at H
      by_cases c9 : x16_1 < (t102.length : Int)
      · rw [if_pos c9] at H
        have c9b0 : decide (x16_1 < (t102.length : Int)) = true := decide_eq_true c9
        clear c9
        obtain ⟨ji10, hji10⟩ : ∃ j_ : Int, (wrap64 ((wrap64 ((t102.length : Int) - 1)) - x16_1)) = j_ := ⟨_, rfl⟩
        replace H : (if 0 ≤ (ji10) then (if (ji10) < (t102.length : Int) then (if x7_1.length < 17592186044416 then (enter_Leave.l0 k1 (x7_1 ++ [rd t102 (ji10)]) t102 (t102.length : Int) (wrap64 (x16_1 + 1))) else (none)) else (none)) else (none)) = some r := by first | (rw [hji10] at H; exact H) | (simp only [hji10] at H ⊢; exact H)
        have hji10w : (IntKind.i64.wrap ((wrap64 ((t102.length : Int) - 1)) - x16_1)) = ji10 := (i64_w _).trans hji10
        by_cases c11 : 0 ≤ (ji10)
        · rw [if_pos c11] at H
          have c11b0 : decide (0 ≤ (ji10)) = true := decide_eq_true c11
          clear c11
          by_cases c12 : (ji10) < (t102.length : Int)
          · rw [if_pos c12] at H
            have c12b0 : decide ((ji10) < (t102.length : Int)) = true := decide_eq_true c12
            clear c12
            by_cases c13 : x7_1.length < 17592186044416
            · rw [if_pos c13] at H
              have LMc13 := Aside0.mk c13
              clear c13
              obtain ⟨y106, hy106⟩ : ∃ y_ : List Int, y_ = (x7_1 ++ [rd t102 (ji10)]) := ⟨_, rfl⟩
              replace H : (enter_Leave.l0 k1 y106 t102 (t102.length : Int) (wrap64 (x16_1 + 1))) = some r := by first | (rw [hy106]; with_reducible exact H) | (have H2_ := (Option.bind_some _ _).symm.trans H; rw [hy106]; with_reducible exact H2_) | (have H2_ := (Option.bind_some _ _).symm.trans H; with_reducible exact H2_) | with_reducible exact H | (rw [hy106]; exact H) | exact H
              have Ny106 := Aside0.mk hy106
              clear hy106
              have H' := Aside0.mk H
              clear H
              have p105 : 0 ≤ ((ji10) : Int) := of_decide_eq_true (by first | (with_reducible assumption) | assumption)
              have q105 : (ji10) < (t102.length : Int) := of_decide_eq_true (by first | (with_reducible assumption) | assumption)
              obtain ⟨ad105, e105, hx105_0⟩ := Kd.at_int (Kd.R_reads' HO_8.out).2.2 (ji10) p105 q105
              cases e105
              replace p105 := eq_true p105
              replace q105 := eq_true q105
              go_wp2_with (first | ((with_reducible refine gate_builtin (b := .append) (xs := #[.tmp 19, .tmp 28]) rfl ?_); at_builtin; refine Kd.R_append (Kd.int .i64) (w0 := w) w.heap.size rfl (.tmp 19) (.tmp 28) 22 3 (.int .i64 0) 8 rfl Try.underlying22 info3 rfl (by decide) (by omega) u7 x7_1 (rd t102 (ji10)) [.int .i64 (rd t102 (ji10))] (fun k_ => some k_ ≠ (.slice (some ad105) t102.length co8 : Value).ownBlock) (fun _ => False) rfl rfl ?aP (fun _ hk => hk.elim) ?aF ?aO ?aB ?aS ?aL ?_; (case aP => exact rfl); (case aB => exact (by repeat (first | (with_reducible first | exact HB.out | apply below_alloc | apply pw_below_drewN | apply below_drew1 | refine below_set ?_ GE101.out) | exact HB.out))); (case aF => exact (fun k_ hk => Kd.fresh' (Kd.R_lt (by (with_reducible repeat (first | apply Kd.R_alloc | apply Kd.R_drewN | apply Kd.R_drew)); exact HO_8.out)) k_ hk)); (case aO => exact (by (with_reducible repeat (first | apply Kd.R_alloc | apply Kd.R_drewN | apply Kd.R_drew)); exact HO_7.out)); (case aS => exact (below_size (by repeat (first | (with_reducible first | exact HB.out | apply below_alloc | apply pw_below_drewN | apply below_drew1 | refine below_set ?_ GE101.out) | exact HB.out)))); (case aL => have := LMc13.out; omega); intro v107 w14 ho hb hg hat; rw [← Ny106.out] at ho; have n0_ := Aside0.mk (Kd.R_after (ok := (fun _ => True)) (by (with_reducible repeat (first | apply Kd.R_alloc | apply Kd.R_drewN | apply Kd.R_drew)); exact Kd.R_mono HO_8.out (fun _ hk => ⟨trivial, hk⟩)) hg hat); have n1_ := Aside0.mk (blk_grown (g := gb101) (o := .cells #[.slice A0_0 l0_0.length c0_0, .slice A0_1 l0_1.length c0_1] 24 (0, 0)) (by (with_reducible repeat (first | refine blk_drewN ?_ _ | refine blk_drew ?_ | refine blk_alloc ?_ _)); exact BK101.out) hg (Kd.R_ne HO_7.out BK101.out (by decide))); have n2_ := Aside0.mk (hb); have n3_ := Aside0.mk (ho); clear HO_8; clear BK101; clear HB; clear HO_7; have HO_8 := n0_; have BK101 := n1_; have HB := n2_; have HO108 := n3_; clear n0_ n1_ n2_ n3_; clear ho hb hg hat))
              go_roundg k1
              case measure => have := HK1.out; omega
              case rel => exact ⟨(y106), (wrap64 (x16_1 + 1)), (by first | rfl | (simp; done) | (simp [*]; done)), (by first | exact H' | exact ⟨by simp only [hji10]; exact H'.out⟩), ⟨by have := HK1.out; omega⟩, ⟨by (with_reducible repeat (first | apply Kd.R_alloc | apply Kd.R_drewN | apply Kd.R_drew)); exact HO108.out⟩, ⟨by (with_reducible repeat (first | apply Kd.R_alloc | apply Kd.R_drewN | apply Kd.R_drew)); exact Kd.R_mono HO_8.out (fun _ hk => hk.2)⟩, ⟨by (with_reducible repeat (first | refine blk_drewN ?_ _ | refine blk_drew ?_ | refine blk_alloc ?_ _)); exact BK101.out⟩, ⟨by repeat (first | (with_reducible first | exact HB.out | apply below_alloc | apply pw_below_drewN | apply below_drew1 | refine below_set ?_ GE101.out) | exact HB.out)⟩⟩
            · rw [if_neg c13] at H
              exact absurd H (by simp)
          · rw [if_neg c12] at H
            exact absurd H (by simp)
        · rw [if_neg c11] at H
          exact absurd H (by simp)
      · rw [if_neg c9] at H
        have c9b0 : decide (x16_1 < (t102.length : Int)) = false := decide_eq_false c9
        clear c9
        obtain rfl := Option.some.inj H
        go_wp2
        go_ret
        exact ⟨_, by first | rfl | (simp [errW_none, errW_some] <;> rfl) | (simp [*, errW_none, errW_some] <;> rfl), by (with_reducible repeat (first | apply Kd.R_alloc | apply Kd.R_drewN | apply Kd.R_drew)); exact Kd.R_mono HO_7.out (fun _ hk => trivial), by repeat (first | (with_reducible first | exact HB.out | apply below_alloc | apply pw_below_drewN | apply below_drew1 | refine below_set ?_ GE101.out) | exact HB.out)⟩

end Go.Proofs.Ytnomeokicfpidaa.Q
/-
  Sets as numbers, and what lies in a state as a list. Conditions: a valid shape of at most 24 states.
-/
namespace Go.Proofs.Ytnomeokicfpidaa.M
open Go.RowKit Go.Proofs.YtnomeokicfpidaaW.PrintWords Go.Proofs.YtnomeokicfpidaaW.PrintLast Go.Proofs.YtnomeokicfpidaaW.PrintMore Go.Proofs.Ytnomeokicfpidaa.Q Go.Proofs.Ytnomeokicfpidaa.EW
set_option linter.unusedVariables false
-- uses: imprimaturlaw07_bits.l0 imprimaturkeep_Same_int.l0 imprimaturlaw07_wakes.f enter_Leave.l0

theorem inB_nat (s i : Nat) (hs : s < 4294967296) : inB (s : Int) (i : Int) = s.testBit i := by
  unfold inB
  rw [bit1 s i hs]
  by_cases h : s.testBit i = true
  · rw [if_pos h, h]; rfl
  · rw [if_neg h, eq_false_of_ne_true h]; rfl
theorem hold_iff {K P : List Int} {s : Nat} {R : List Int} {x : Int} (h : ∀ m ∈ kids P x, s.testBit m.toNat = true ↔ m ∈ R) : heldB K P s x (one K x) = true ↔ hold K P R x := by
  unfold hold
  cases ho : one K x with
  | true =>
    rw [if_pos rfl, held_one]
    constructor
    · rintro (e | ⟨k, hk, hb, hu⟩)
      · exact .inl e
      · exact .inr ⟨k, hk, (h k hk).1 hb, fun m hm hb' => hu m hm ((h m hm).2 hb')⟩
    · rintro (e | ⟨k, hk, hb, hu⟩)
      · exact .inl e
      · exact .inr ⟨k, hk, (h k hk).2 hb, fun m hm hb' => hu m hm ((h m hm).1 hb')⟩
  | false =>
    rw [if_neg (by simp), held_all]
    exact ⟨fun g m hm => (h m hm).1 (g m hm), fun g m hm => (h m hm).2 (g m hm)⟩
theorem below_sorted (K P : List Int) (s a : Int) : (belowL K P s a).Pairwise (· < ·) := by
  unfold belowL belowFrom
  rw [List.pairwise_map]
  refine List.Pairwise.imp ?_ (List.Pairwise.filter _ (List.pairwise_lt_range' (s := 0) (n := K.length) 1))
  intro x y h; omega

section
variable {K P : List Int} (hO : Ok K P)
include hO
theorem mem_belowN {s : Nat} (hs : s < 4294967296) {a x : Int} : x ∈ belowL K P (s : Int) a ↔ ∃ j : Nat, x = j ∧ j < K.length ∧ (j : Int) ≠ a ∧ s.testBit j = true ∧ Un P (j : Int) a := by
  have hn := hO.1
  rw [mem_below]
  constructor
  · rintro ⟨j, rfl, h1, h2, h3, h4⟩
    exact ⟨j, rfl, h1, h2, by rw [← inB_nat s j hs]; exact h3, (unB_iff hO.tree (by omega) (by omega)).1 h4⟩
  · rintro ⟨j, rfl, h1, h2, h3, h4⟩
    exact ⟨j, rfl, h1, h2, by rw [inB_nat s j hs]; exact h3, (unB_iff hO.tree (by omega) (by omega)).2 h4⟩
theorem LP.below {b : Int} {s : Nat} (h : LP K P b s) (hs : s < 4294967296) {a : Int} (ha : a = b ∨ (0 ≤ a ∧ s.testBit a.toNat = true)) : BL K P a (belowL K P (s : Int) a) := by
  have hT := hO.tree
  have hn := hO.1
  have hkid : ∀ x, Un P x a → ∀ m ∈ kids P x, (s.testBit m.toNat = true ↔ m ∈ belowL K P (s : Int) a) := by
    intro x hx m hm
    obtain ⟨m0, m1, m2⟩ := mem_kids_rd hm
    have hu := (Un.kid1 hm).trans hx
    have := hT.rdP m0 m1
    have := hx.le hT
    rw [mem_belowN hO hs]
    constructor
    · intro hb; exact ⟨m.toNat, by omega, by omega, by omega, hb, by rw [show ((m.toNat : Nat) : Int) = m by omega]; exact hu⟩
    · rintro ⟨j, rfl, _, _, hb, _⟩; exact hb
  have par : ∀ x ∈ belowL K P (s : Int) a, rd P x = a ∨ rd P x ∈ belowL K P (s : Int) a := by
    intro x hx
    obtain ⟨j, rfl, h1, h2, h3, h4⟩ := (mem_belowN hO hs).1 hx
    obtain ⟨_, _, hu⟩ := h4.cases' h2
    by_cases e : rd P (j : Int) = a
    · exact .inl e
    · right
      obtain ⟨_, _, c3, _, c5⟩ := h.mem j h3
      rw [rd_nat] at hu e ⊢
      rcases c5 with c5 | ⟨c5, c6⟩
      · exfalso
        rw [c5] at hu e
        rcases ha with ha | ⟨ha0, ha1⟩
        · exact e ha.symm
        · obtain ⟨_, d2, d3, _⟩ := h.mem a.toNat ha1
          rw [show ((a.toNat : Nat) : Int) = a by omega] at d2 d3
          have := d3.lt hT d2
          have := hu.le hT
          omega
      · have := hT j (by omega)
        refine (mem_belowN hO hs).2 ⟨(P.getD j 0).toNat, by omega, by omega, by omega, c6, by rw [show (((P.getD j 0).toNat : Nat) : Int) = P.getD j 0 by omega]; exact hu⟩
  refine ⟨?_, fun x hx => ?_, fun pre x post e => ?_, fun x hx => ?_, ?_⟩
  · exact List.Pairwise.imp (fun h => by omega) (below_sorted K P (s : Int) a)
  · obtain ⟨j, rfl, h1, h2, h3, h4⟩ := (mem_belowN hO hs).1 hx
    obtain ⟨_, _, _, c4, _⟩ := h.mem j h3
    exact ⟨by omega, by omega, by rw [rd_nat]; exact c4, h4, h2⟩
  · have hx : x ∈ belowL K P (s : Int) a := by rw [e]; simp
    rcases par x hx with p | p
    · exact .inl p
    · right
      obtain ⟨j, rfl, h1, _⟩ := (mem_belowN hO hs).1 hx
      have hlt := hT j (by omega)
      rw [e] at p
      have hso := below_sorted K P (s : Int) a
      rw [e] at hso
      rcases List.mem_append.1 p with p | p
      · exact p
      · rcases List.mem_cons.1 p with p | p
        · rw [rd_nat] at p; omega
        · have := (List.pairwise_cons.1 (List.pairwise_append.1 hso).2.1).1 _ p
          rw [rd_nat] at this; omega
  · obtain ⟨j, rfl, h1, h2, h3, h4⟩ := (mem_belowN hO hs).1 hx
    exact (hold_iff (hkid j h4)).1 (h.all j h3)
  · refine (hold_iff (hkid a (.refl _))).1 ?_
    rcases ha with rfl | ⟨ha0, ha1⟩
    · exact h.own
    · have := h.all a.toNat ha1
      rwa [show ((a.toNat : Nat) : Int) = a by omega] at this
theorem BL.LP {a : Int} {R : List Int} {s : Nat} (h : BL K P a R) (hs : ∀ j : Nat, s.testBit j = true ↔ (j : Int) ∈ R) : LP K P a s := by
  have hn := hO.1
  have hk : ∀ x, ∀ m ∈ kids P x, s.testBit m.toNat = true ↔ m ∈ R := by
    intro x m hm
    obtain ⟨m0, _⟩ := mem_kids_rd hm
    rw [hs, show ((m.toNat : Nat) : Int) = m by omega]
  refine ⟨fun j hj => ?_, (hold_iff (hk a)).2 h.own, fun j hj => (hold_iff (hk _)).2 (h.hel _ ((hs j).1 hj))⟩
  obtain ⟨x0, x1, x2, x3, x4⟩ := h.el _ ((hs j).1 hj)
  refine ⟨by omega, x4, x3, by rw [← rd_nat]; exact x2, ?_⟩
  rcases h.par ((hs j).1 hj) with e | e
  · left; rw [← rd_nat]; exact e
  · right
    rw [rd_nat] at e
    have := (h.el _ e).1
    exact ⟨this, (hs _).2 (by rw [show (((P.getD j 0).toNat : Nat) : Int) = P.getD j 0 by omega]; exact e)⟩
end

theorem Inv.ok {K P : List Int} (h : Inv K P) (h24 : K.length ≤ 24) : Ok K P := Ok.of_valid (h.valid h24)

/-- The set of a list of states, as a number. -/
theorem bs_lt {L : List Int} (hL : ∀ x ∈ L, 0 ≤ x ∧ x < 32) : bs L 0 < 4294967296 := by
  refine Nat.lt_pow_two_of_testBit (n := 32) _ (fun i hi => eq_false_of_ne_true fun hb => ?_)
  rcases (tb_bs (fun x hx => (hL x hx).1)).1 hb with h | h
  · simp at h
  · have := hL _ h; omega
theorem bits_l0 (L : List Int) (hl : L.length < 1000000) (hL : ∀ x ∈ L, 0 ≤ x ∧ x < 32) : ∀ (rest pre : List Int) (s : Nat), L = pre ++ rest → s < 4294967296 →
    Ev (fun k => imprimaturlaw07_bits.l0 k (s : Int) L (L.length : Int) (pre.length : Int)) ((bs rest s : Nat) : Int) := by
  intro rest
  induction rest with
  | nil =>
    intro pre s hp hs
    refine Ev.ret (fun k => ?_)
    have : L.length = pre.length := by rw [hp, List.append_nil]
    simp only [imprimaturlaw07_bits.l0]
    rw [if_neg (by omega)]; rfl
  | cons x rest ih =>
    intro pre s hp hs
    have hx := hL x (by rw [hp]; simp)
    have hlen : L.length = pre.length + (rest.length + 1) := by rw [hp]; simp
    have hr : rd L (pre.length : Int) = x := by
      rw [hp, rd_nat]; simp [List.getD_eq_getElem?_getD]
    obtain ⟨j, rfl⟩ : ∃ j : Nat, x = (j : Int) := ⟨x.toNat, by omega⟩
    have hb : s ||| 2 ^ j < 4294967296 := Nat.or_lt_two_pow (n := 32) hs (pow_lt32 (by omega))
    refine Ev.st (ih (pre ++ [(j : Int)]) (s ||| 2 ^ j) (by rw [hp]; simp) hb) (fun k => ?_)
    simp only [imprimaturlaw07_bits.l0]
    rw [if_pos (by omega), if_pos (by omega), if_pos (by omega), hr, if_pos (by omega), if_pos (by omega), u64w j (by omega), if_pos (by omega), shl_one j (by omega), u32_or s (2 ^ j) hs (pow_lt32 (by omega)), w1 _ (by omega)]
    congr 1
    rw [List.length_append]; rfl
theorem bits_f (L : List Int) (hl : L.length < 1000000) (hL : ∀ x ∈ L, 0 ≤ x ∧ x < 32) : Ev (fun k => imprimaturlaw07_bits.f k L) ((bs L 0 : Nat) : Int) := by
  unfold imprimaturlaw07_bits.f
  exact bits_l0 L hl hL L [] 0 rfl (by decide)

theorem same_l0 (L : List Int) (hl : L.length < 4611686018427387904) : ∀ (d i : Nat), i + d = L.length → Ev (fun k => imprimaturkeep_Same_int.l0 k L L (i : Int)) true := by
  intro d
  induction d with
  | zero =>
    intro i hi
    refine Ev.ret (fun k => ?_)
    simp only [imprimaturkeep_Same_int.l0]
    rw [if_neg (by omega)]
  | succ d ih =>
    intro i hi
    refine Ev.st (ih (i + 1) (by omega)) (fun k => ?_)
    simp only [imprimaturkeep_Same_int.l0]
    rw [if_pos (by omega), if_pos (by omega), if_pos (by omega), if_pos trivial, w1 i (by omega)]
theorem same_f (L : List Int) (hl : L.length < 4611686018427387904) : Ev (fun k => imprimaturkeep_Same_int.f k L L) true := by
  refine Ev.cg (same_l0 L hl L.length 0 (by omega)) (fun k => ?_)
  unfold imprimaturkeep_Same_int.f
  rw [if_pos rfl]; rfl
theorem wakes7_f : Ev (fun k => imprimaturlaw07_wakes.f k) true := Ev.of (fun k => imprimaturlaw07_wakes.mono k) (k := 30) (by decide +kernel)

theorem Leave_l0 (L : List Int) (hl : L.length < 1000000) : ∀ (d i : Nat) (acc : List Int), i + d = L.length → acc.length ≤ i → Ev (fun k => enter_Leave.l0 k acc L (L.length : Int) (i : Int)) (acc ++ (L.take d).reverse) := by
  intro d
  induction d with
  | zero =>
    intro i acc hi ha
    refine Ev.ret (fun k => ?_)
    simp only [enter_Leave.l0]
    rw [if_neg (by omega)]; simp
  | succ d ih =>
    intro i acc hi ha
    have hw : wrap64 (wrap64 ((L.length : Int) - 1) - (i : Int)) = (d : Int) := by rw [w64 (x := (L.length : Int) - 1) (by omega) (by omega), w64 (by omega) (by omega)]; omega
    refine Ev.st (Ev.val (ih (i + 1) (acc ++ [rd L (d : Int)]) (by omega) (by simp; omega)) ?_) (fun k => ?_)
    · rw [List.take_succ_eq_append_getElem (by omega), List.reverse_append, rd_nat, List.getD_eq_getElem?_getD, List.getElem?_eq_getElem (by omega)]; simp
    · simp only [enter_Leave.l0]
      rw [if_pos (by omega), hw, if_pos (by omega), if_pos (by omega), if_pos (by omega), w1 i (by omega)]
theorem Leave_f {K P : List Int} (hO : Ok K P) (s d : Int) (d0 : -1 ≤ d) (d1 : d < K.length) : Ev (fun k => enter_Leave.f k K P s d) (belowL K P s d).reverse := by
  have h24 := hO.2.2.2.2
  have hb := below_len K P s d
  unfold enter_Leave.f
  refine Ev.bd (below_f hO.1 hO.tree (by omega) s d d0 d1) ?_
  have := Leave_l0 (belowL K P s d) (by omega) (belowL K P s d).length 0 [] (by omega) (by simp)
  simpa using this
end Go.Proofs.Ytnomeokicfpidaa.M
