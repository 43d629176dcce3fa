-- merged by pack.py out of: YtnomeokicfpidaaTree YtnomeokicfpidaaQx16 YtnomeokicfpidaaQx17 YtnomeokicfpidaaUnd YtnomeokicfpidaaEnterHi YtnomeokicfpidaaEnterPa YtnomeokicfpidaaEnterEn YtnomeokicfpidaaQx30 YtnomeokicfpidaaQx31 YtnomeokicfpidaaQx32
import Derived.Test.YtnomeokicfpidaaKEnterStart28
import Derived.Test.YtnomeokicfpidaaKEnterStart24
import Derived.StillTailTactics
import Derived.Test.YtnomeokicfpidaaKEnterStart26
/-
  States in one another, as a relation: what lies in what. Conditions: each parent stands ahead of its states.
-/
namespace Go.Proofs.Ytnomeokicfpidaa.M
open Go.RowKit Go.Proofs.YtnomeokicfpidaaW.PrintWords Go.Proofs.YtnomeokicfpidaaW.PrintLast Go.Proofs.YtnomeokicfpidaaW.PrintMore
set_option linter.unusedVariables false

/-- Parents stand ahead. -/
def Tree (P : List Int) : Prop := ∀ j : Nat, j < P.length → -1 ≤ P.getD j 0 ∧ P.getD j 0 < j
theorem Tree.rdP {P : List Int} (h : Tree P) {a : Int} (h0 : 0 ≤ a) (h1 : a < P.length) : -1 ≤ rd P a ∧ rd P a < a := by
  have := h a.toNat (by omega)
  unfold rd; omega
/-- a is b, or lies in it. -/
inductive Un (P : List Int) : Int → Int → Prop
  | refl (a : Int) : Un P a a
  | up {a b : Int} (h0 : 0 ≤ a) (h1 : a < P.length) (h : Un P (rd P a) b) : Un P a b
theorem Un.le {P : List Int} (hT : Tree P) {a b : Int} (h : Un P a b) : b ≤ a := by
  induction h with
  | refl => exact Int.le_refl _
  | up h0 h1 _ ih => have := hT.rdP h0 h1; omega
theorem Un.trans {P : List Int} {a b c : Int} (h : Un P a b) (k : Un P b c) : Un P a c := by
  induction h with
  | refl => exact k
  | up h0 h1 _ ih => exact .up h0 h1 (ih k)
theorem Un.cases' {P : List Int} {a b : Int} (h : Un P a b) (hne : a ≠ b) : 0 ≤ a ∧ a < P.length ∧ Un P (rd P a) b := by
  cases h with
  | refl => exact absurd rfl hne
  | up h0 h1 h => exact ⟨h0, h1, h⟩
theorem Un.lt {P : List Int} (hT : Tree P) {a b : Int} (h : Un P a b) (hne : a ≠ b) : b < a := by
  obtain ⟨h0, h1, h2⟩ := h.cases' hne
  have := h2.le hT
  have := hT.rdP h0 h1; omega
theorem Un.lin {P : List Int} {a b c : Int} (h : Un P a b) (k : Un P a c) : Un P b c ∨ Un P c b := by
  induction h with
  | refl => exact .inl k
  | @up a b h0 h1 h ih =>
    by_cases e : a = c
    · subst e; exact .inr (.up h0 h1 h)
    · exact ih (k.cases' e).2.2
/-- On the way from a up to b the last state ahead of b. -/
theorem Un.kid {P : List Int} {a b : Int} (h : Un P a b) (hne : a ≠ b) : ∃ k : Nat, k < P.length ∧ P.getD k 0 = b ∧ Un P a (k : Int) := by
  induction h with
  | refl => exact absurd rfl hne
  | @up a b h0 h1 h ih =>
    by_cases e : rd P a = b
    · exact ⟨a.toNat, by omega, e, by rw [show ((a.toNat : Nat) : Int) = a by omega]; exact .refl _⟩
    · obtain ⟨k, x, y, z⟩ := ih e
      exact ⟨k, x, y, .up h0 h1 z⟩
/-- What lies in two states of one parent lies in one. -/
theorem Un.sib {P : List Int} (hT : Tree P) {a p : Int} {k m : Nat} (hk : k < P.length) (hm : m < P.length) (ek : P.getD k 0 = p) (em : P.getD m 0 = p) (h : Un P a (k : Int)) (h' : Un P a (m : Int)) : k = m := by
  have key : ∀ {x y : Nat}, x < P.length → y < P.length → P.getD x 0 = p → P.getD y 0 = p → Un P (x : Int) (y : Int) → x = y := by
    intro x y hx hy ex ey h
    by_cases e : (x : Int) = (y : Int)
    · omega
    · obtain ⟨_, _, h2⟩ := h.cases' e
      rw [rd_nat, ex] at h2
      have := h2.le hT
      have := hT y hy
      omega
  rcases h.lin h' with h | h
  · exact key hk hm ek em h
  · exact (key hm hk em ek h).symm
theorem Un.below_ {P : List Int} (hT : Tree P) {a b : Int} (h : Un P a b) (ha : a < P.length) (hb : -1 ≤ b) : -1 ≤ a := Int.le_trans hb (h.le hT)
/-- Everything lies in the top. -/
theorem Un.top {P : List Int} (hT : Tree P) : ∀ (n : Nat) (a : Int), a < n → -1 ≤ a → a < P.length → Un P a (-1) := by
  intro n
  induction n with
  | zero =>
    intro a h1 h2 h3
    obtain rfl : a = -1 := by omega
    exact .refl _
  | succ n ih =>
    intro a h1 h2 h3
    by_cases e : a = -1
    · subst e; exact .refl _
    · have := hT.rdP (a := a) (by omega) h3
      exact .up (by omega) h3 (ih _ (by omega) this.1 (by omega))
theorem Un.par {P : List Int} {k : Nat} (hk : k < P.length) : Un P (k : Int) (P.getD k 0) := .up (by omega) (by omega) (by rw [rd_nat]; exact .refl _)

/-- Numbers out of a test on bits. -/
def mkB (p : Nat → Bool) : Nat → Nat
  | 0 => 0
  | n + 1 => mkB p n ||| (if p n = true then 2 ^ n else 0)
theorem testBit_mkB (p : Nat → Bool) (j : Nat) : ∀ n, (mkB p n).testBit j = (decide (j < n) && p j) := by
  intro n
  induction n with
  | zero => simp [mkB]
  | succ n ih =>
    rw [mkB, Nat.testBit_or, ih]
    by_cases hp : p n = true
    · rw [if_pos hp, Nat.testBit_two_pow]
      by_cases e : n = j
      · subst e; simp [hp]
      · rw [decide_eq_false e, Bool.or_false]
        have : decide (j < n) = decide (j < n + 1) := by
          by_cases h : j < n
          · rw [decide_eq_true h, decide_eq_true (by omega)]
          · rw [decide_eq_false h, decide_eq_false (by omega)]
        rw [this]
    · rw [if_neg hp, Nat.zero_testBit, Bool.or_false]
      by_cases e : j = n
      · subst e; rw [eq_false_of_ne_true hp]; simp
      · have : decide (j < n) = decide (j < n + 1) := by
          by_cases h : j < n
          · rw [decide_eq_true h, decide_eq_true (by omega)]
          · rw [decide_eq_false h, decide_eq_false (by omega)]
        rw [this]
end Go.Proofs.Ytnomeokicfpidaa.M
-- printed by myprint.py: a program of this repo over the kit's print
namespace Go.Proofs.Ytnomeokicfpidaa.Q
open Go.RowKit Go.Proofs.YtnomeokicfpidaaW.PrintWords Go.Proofs.YtnomeokicfpidaaW.PrintLast Go.Proofs.YtnomeokicfpidaaW.PrintMore
attribute [local go_sem] max2_int min2_int max_two min_two max_three min_three max_four min_four   -- for this text's walks alone
set_option linter.unusedVariables false
set_option linter.unusedSimpArgs false

/-! ### imprimaturref06_Shape_in: function 54 -/
def imprimaturref06_Shape_in.f (l0_0 : List Int) (l0_1 : List Int) (a1 : Int) : Option (Bool) := if a1 ≥ 0 then (some (decide (a1 < (l0_0.length : Int)))) else (some false)
set_option maxHeartbeats 8000000 in
set_option maxRecDepth 100000 in
theorem imprimaturref06_Shape_in.calls (A0_0 : Option Addr) (c0_0 : Nat) (l0_0 : List Int) (A0_1 : Option Addr) (c0_1 : Nat) (l0_1 : List Int) (a1 : Int) (r : Bool) (w : World) (hr0_0 : Kd.C (Kd.int .i64) w A0_0 l0_0.length l0_0) (hc0_0 : l0_0.length ≤ c0_0) (hr0_1 : Kd.C (Kd.int .i64) w A0_1 l0_1.length l0_1) (hc0_1 : l0_1.length ≤ c0_1) (h : imprimaturref06_Shape_in.f l0_0 l0_1 a1 = some r) :
    Calls Try.prog 54 #[.agg #[.slice A0_0 l0_0.length c0_0, .slice A0_1 l0_1.length c0_1], .int .i64 a1] w fun e w' => e = .returned (.bool r) ∧ Below w.heap.size w w' := by
  have hu25 := Try.underlying25
  have HR0_0 := Aside0.mk hr0_0
  have HC0_0 := Aside0.mk hc0_0
  clear hr0_0 hc0_0
  have HR0_1 := Aside0.mk hr0_1
  have HC0_1 := Aside0.mk hc0_1
  clear hr0_1 hc0_1
  have HB := Aside0.mk (Below.refl w.heap.size w)
  have H : (if a1 ≥ 0 then (some (decide (a1 < (l0_0.length : Int)))) else (some false)) = some r := h
  clear h
  by_cases c3 : a1 ≥ 0
  · rw [if_pos c3] at H
    have c3b0 : decide (0 ≤ a1) = true := decide_eq_true c3
    clear c3
    obtain rfl := Option.some.inj H
    go_enter Try.func54, Try.ntmps54
    go_wp2_with (first | ((with_reducible refine gate_dst (N := 2) rfl ?_); (try (refine gate_guard (by rfl) ?_; dsimp only)); refine box_event ?hg (N := 2) ?hd (cs := #[.slice A0_0 l0_0.length c0_0, .slice A0_1 l0_1.length c0_1]) (t := 25) ?hr ?_; (case hd => rfl); (case hg => rfl); (case hr => first | (go_simp; done) | (go_simp; rfl)); intro gb101 hg w4 hbox hb; have n0_ := Aside0.mk (below_step (by repeat (first | (with_reducible first | exact HB.out | apply below_alloc | apply pw_below_drewN | apply below_drew1) | exact HB.out)) hb); have n1_ := Aside0.mk (hbox); have n2_ := Aside0.mk ((by rw [hg]; exact (below_size (by repeat (first | (with_reducible first | exact HB.out | apply below_alloc | apply pw_below_drewN | apply below_drew1) | exact HB.out))) : w.heap.size ≤ gb101)); have n3_ := Aside0.mk ((by rw [hg]; exact (below_size (by repeat (first | (with_reducible first | exact HB.out | apply below_alloc | apply pw_below_drewN | apply below_drew1) | exact HB.out))) : w.heap.size ≤ gb101)); clear HB; have HB := n0_; have BK101 := n1_; have GW101 := n2_; have GE101 := n3_; clear n0_ n1_ n2_ n3_; clear hb hbox hg; have hcz5_0 : w4.cell? ⟨gb101, 0, none⟩ = some (.slice A0_0 l0_0.length c0_0) := (blk_cell BK101.out 0).trans rfl; have hcz5_1 : w4.cell? ⟨gb101, 1, none⟩ = some (.slice A0_1 l0_1.length c0_1) := (blk_cell BK101.out 1).trans rfl; have hfz5_0 := blk_frozen BK101.out 0; have hfz5_1 := blk_frozen BK101.out 1))
    go_ret
    exact ⟨by first | rfl | (simp [errW_none, errW_some] <;> rfl) | (simp [*, errW_none, errW_some] <;> rfl), by repeat (first | (with_reducible first | exact HB.out | apply below_alloc | apply pw_below_drewN | apply below_drew1 | refine below_set ?_ GE101.out) | exact HB.out)⟩
  · rw [if_neg c3] at H
    have c3b0 : decide (0 ≤ a1) = false := decide_eq_false c3
    clear c3
    obtain rfl := Option.some.inj H
    go_enter Try.func54, Try.ntmps54
    go_wp2_with (first | ((with_reducible refine gate_dst (N := 2) rfl ?_); (try (refine gate_guard (by rfl) ?_; dsimp only)); refine box_event ?hg (N := 2) ?hd (cs := #[.slice A0_0 l0_0.length c0_0, .slice A0_1 l0_1.length c0_1]) (t := 25) ?hr ?_; (case hd => rfl); (case hg => rfl); (case hr => first | (go_simp; done) | (go_simp; rfl)); intro gb101 hg w6 hbox hb; have n0_ := Aside0.mk (below_step (by repeat (first | (with_reducible first | exact HB.out | apply below_alloc | apply pw_below_drewN | apply below_drew1) | exact HB.out)) hb); have n1_ := Aside0.mk (hbox); have n2_ := Aside0.mk ((by rw [hg]; exact (below_size (by repeat (first | (with_reducible first | exact HB.out | apply below_alloc | apply pw_below_drewN | apply below_drew1) | exact HB.out))) : w.heap.size ≤ gb101)); have n3_ := Aside0.mk ((by rw [hg]; exact (below_size (by repeat (first | (with_reducible first | exact HB.out | apply below_alloc | apply pw_below_drewN | apply below_drew1) | exact HB.out))) : w.heap.size ≤ gb101)); clear HB; have HB := n0_; have BK101 := n1_; have GW101 := n2_; have GE101 := n3_; clear n0_ n1_ n2_ n3_; clear hb hbox hg))
    go_ret
    exact ⟨by first | rfl | (simp [errW_none, errW_some] <;> rfl) | (simp [*, errW_none, errW_some] <;> rfl), by repeat (first | (with_reducible first | exact HB.out | apply below_alloc | apply pw_below_drewN | apply below_drew1 | refine below_set ?_ GE101.out) | exact HB.out)⟩

end Go.Proofs.Ytnomeokicfpidaa.Q
-- printed by myprint.py: a program of this repo over the kit's print
namespace Go.Proofs.Ytnomeokicfpidaa.Q
open Go.RowKit Go.Proofs.YtnomeokicfpidaaW.PrintWords Go.Proofs.YtnomeokicfpidaaW.PrintLast Go.Proofs.YtnomeokicfpidaaW.PrintMore
attribute [local go_sem] max2_int min2_int max_two min_two max_three min_three max_four min_four   -- for this text's walks alone
set_option linter.unusedVariables false
set_option linter.unusedSimpArgs false

/-! ### imprimaturref06_Shape_Under: function 48 -/
mutual
def imprimaturref06_Shape_Under.j0 : Nat → Int → Int → Bool → List Int → List Int → Option (Bool)
  | 0, _, _, _, _, _ => none
  | k + 1, x1, x2, x21, x102000, x102001 => if x21 = true then (some false) else (imprimaturref06_Shape_Under.l0 k x1 x2 x102000 x102001)
def imprimaturref06_Shape_Under.l0 : Nat → Int → Int → List Int → List Int → Option (Bool)
  | 0, _, _, _, _ => none
  | k + 1, x1, x2, x102000, x102001 => if x1 ≥ 0 then (if x1 = x2 then (some (x1 == x2)) else (if 0 ≤ x1 then (if x1 < (x102001.length : Int) then (imprimaturref06_Shape_Under.l0 k (rd x102001 x1) x2 x102000 x102001) else (none)) else (none))) else (some (x1 == x2))
end
def imprimaturref06_Shape_Under.f (k : Nat) (l0_0 : List Int) (l0_1 : List Int) (a1 : Int) (a2 : Int) : Option (Bool) := (imprimaturref06_Shape_in.f l0_0 l0_1 a1).bind fun t102 => (if t102 = true then (if a2 < (-1) then (imprimaturref06_Shape_Under.j0 k a1 a2 true l0_0 l0_1) else (imprimaturref06_Shape_Under.j0 k a1 a2 (decide (a2 ≥ (l0_0.length : Int))) l0_0 l0_1)) else (imprimaturref06_Shape_Under.j0 k a1 a2 true l0_0 l0_1))
theorem imprimaturref06_Shape_Under.mono_l : ∀ k, (∀ y0 y1 y2 y3 y4, LeO (imprimaturref06_Shape_Under.j0 k y0 y1 y2 y3 y4) (imprimaturref06_Shape_Under.j0 (k + 1) y0 y1 y2 y3 y4)) ∧ (∀ y0 y1 y2 y3, LeO (imprimaturref06_Shape_Under.l0 k y0 y1 y2 y3) (imprimaturref06_Shape_Under.l0 (k + 1) y0 y1 y2 y3))
  | 0 => ⟨fun _ _ _ _ _ r h => by simp [imprimaturref06_Shape_Under.j0] at h, fun _ _ _ _ r h => by simp [imprimaturref06_Shape_Under.l0] at h⟩
  | k + 1 => by
    obtain ⟨ih0, ih1⟩ := imprimaturref06_Shape_Under.mono_l k
    refine ⟨?_, ?_⟩
    · intro y0 y1 y2 y3 y4
      unfold imprimaturref06_Shape_Under.j0
      repeat' first
      | (with_reducible exact ih0 _ _ _ _ _)
      | (with_reducible exact ih1 _ _ _ _)
      | (with_reducible exact LeO.refl _)
      | (with_reducible exact LeO.none _)
      | (with_reducible refine LeO.ite ?_ ?_)
      | (with_reducible refine LeO.bind ?_ (fun _ => ?_))
      | exact ih0 _ _ _ _ _
      | exact ih1 _ _ _ _
      | exact LeO.none _
      | refine LeO.ite ?_ ?_
      | refine LeO.bind ?_ (fun _ => ?_)
    · intro y0 y1 y2 y3
      unfold imprimaturref06_Shape_Under.l0
      repeat' first
      | (with_reducible exact ih0 _ _ _ _ _)
      | (with_reducible exact ih1 _ _ _ _)
      | (with_reducible exact LeO.refl _)
      | (with_reducible exact LeO.none _)
      | (with_reducible refine LeO.ite ?_ ?_)
      | (with_reducible refine LeO.bind ?_ (fun _ => ?_))
      | exact ih0 _ _ _ _ _
      | exact ih1 _ _ _ _
      | exact LeO.none _
      | refine LeO.ite ?_ ?_
      | refine LeO.bind ?_ (fun _ => ?_)
theorem imprimaturref06_Shape_Under.mono : ∀ a0 a1 a2 a3 k, LeO (imprimaturref06_Shape_Under.f k a0 a1 a2 a3) (imprimaturref06_Shape_Under.f (k + 1) a0 a1 a2 a3) := by
  intro a0 a1 a2 a3 k
  obtain ⟨ih0, ih1⟩ := imprimaturref06_Shape_Under.mono_l k
  unfold imprimaturref06_Shape_Under.f
  repeat' first
      | (with_reducible exact ih0 _ _ _ _ _)
      | (with_reducible exact ih1 _ _ _ _)
      | (with_reducible exact LeO.refl _)
      | (with_reducible exact LeO.none _)
      | (with_reducible refine LeO.ite ?_ ?_)
      | (with_reducible refine LeO.bind ?_ (fun _ => ?_))
      | exact ih0 _ _ _ _ _
      | exact ih1 _ _ _ _
      | exact LeO.none _
      | refine LeO.ite ?_ ?_
      | refine LeO.bind ?_ (fun _ => ?_)
set_option maxHeartbeats 8000000 in
set_option maxRecDepth 100000 in
theorem imprimaturref06_Shape_Under.calls (k : Nat) (A0_0 : Option Addr) (c0_0 : Nat) (l0_0 : List Int) (A0_1 : Option Addr) (c0_1 : Nat) (l0_1 : List Int) (a1 : Int) (a2 : Int) (r : Bool) (w : World) (hr0_0 : Kd.C (Kd.int .i64) w A0_0 l0_0.length l0_0) (hc0_0 : l0_0.length ≤ c0_0) (hr0_1 : Kd.C (Kd.int .i64) w A0_1 l0_1.length l0_1) (hc0_1 : l0_1.length ≤ c0_1) (h : imprimaturref06_Shape_Under.f k l0_0 l0_1 a1 a2 = some r) :
    Calls Try.prog 48 #[.agg #[.slice A0_0 l0_0.length c0_0, .slice A0_1 l0_1.length c0_1], .int .i64 a1, .int .i64 a2] w fun e w' => e = .returned (.bool r) ∧ Below w.heap.size w w' := by
  have hu25 := Try.underlying25
  have HR0_0 := Aside0.mk hr0_0
  have HC0_0 := Aside0.mk hc0_0
  clear hr0_0 hc0_0
  have HR0_1 := Aside0.mk hr0_1
  have HC0_1 := Aside0.mk hc0_1
  clear hr0_1 hc0_1
  have HB := Aside0.mk (Below.refl w.heap.size w)
  have H : ((imprimaturref06_Shape_in.f l0_0 l0_1 a1).bind fun t102 => (if t102 = true then (if a2 < (-1) then (imprimaturref06_Shape_Under.j0 k a1 a2 true l0_0 l0_1) else (imprimaturref06_Shape_Under.j0 k a1 a2 (decide (a2 ≥ (l0_0.length : Int))) l0_0 l0_1)) else (imprimaturref06_Shape_Under.j0 k a1 a2 true l0_0 l0_1))) = some r := h
  clear h
  have HC4 := Aside0.mk H
  clear H
  go_enter Try.func48, Try.ntmps48
  go_upto_region 1 with (first | ((with_reducible refine gate_dst (N := 3) rfl ?_); (try (refine gate_guard (by rfl) ?_; dsimp only)); refine box_event ?hg (N := 3) ?hd (cs := #[.slice A0_0 l0_0.length c0_0, .slice A0_1 l0_1.length c0_1]) (t := 25) ?hr ?_; (case hd => rfl); (case hg => rfl); (case hr => first | (go_simp; done) | (go_simp; rfl)); intro gb101 hg w5 hbox hb; have n0_ := Aside0.mk (below_step (by repeat (first | (with_reducible first | exact HB.out | apply below_alloc | apply pw_below_drewN | apply below_drew1) | exact HB.out)) hb); have n1_ := Aside0.mk (hbox); have n2_ := Aside0.mk ((by rw [hg]; exact (below_size (by repeat (first | (with_reducible first | exact HB.out | apply below_alloc | apply pw_below_drewN | apply below_drew1) | exact HB.out))) : w.heap.size ≤ gb101)); have n3_ := Aside0.mk ((by rw [hg]; exact (below_size (by repeat (first | (with_reducible first | exact HB.out | apply below_alloc | apply pw_below_drewN | apply below_drew1) | exact HB.out))) : w.heap.size ≤ gb101)); clear HB; have HB := n0_; have BK101 := n1_; have GW101 := n2_; have GE101 := n3_; clear n0_ n1_ n2_ n3_; clear hb hbox hg))
  (try simp only [Act.put, List.setIfInBounds_toArray, List.set_cons_zero, List.set_cons_succ])
  go_cut [21] (fun v21 wc => ∃ (kq : Nat) (x21_3 : Bool), v21 = .bool x21_3 ∧ Aside0 (imprimaturref06_Shape_Under.j0 kq a1 a2 x21_3 l0_0 l0_1 = some r) ∧ Aside0 (kq ≤ k) ∧ Aside0 (wc.heap[gb101]? = some (.cells #[(.slice A0_0 l0_0.length c0_0), (.slice A0_1 l0_1.length c0_1)] 25 (0, 0))) ∧ Aside0 (Below w.heap.size w wc))
  case first =>
    have H := HC4.out
    clear HC4
    replace H := Option.bind_eq_some_iff.mp H
    obtain ⟨t102, A60, H⟩ := H
    replace H : (if t102 = true then (if a2 < (-1) then (imprimaturref06_Shape_Under.j0 k a1 a2 true l0_0 l0_1) else (imprimaturref06_Shape_Under.j0 k a1 a2 (decide (a2 ≥ (l0_0.length : Int))) l0_0 l0_1)) else (imprimaturref06_Shape_Under.j0 k a1 a2 true l0_0 l0_1)) = some r := H
    have A6 := Aside0.mk A60
    clear A60
    by_cases c7 : t102 = true
    · subst c7
      have H1 : (if a2 < (-1) then (imprimaturref06_Shape_Under.j0 k a1 a2 true l0_0 l0_1) else (imprimaturref06_Shape_Under.j0 k a1 a2 (decide (a2 ≥ (l0_0.length : Int))) l0_0 l0_1)) = some r := by rw [if_pos rfl] at H; exact H
      clear H
      have H := H1
      clear H1
      by_cases c8 : a2 < (-1)
      · rw [if_pos c8] at H
        have c8b0 : decide (a2 < (-1)) = true := decide_eq_true c8
        clear c8
        (first | rw [c8b0] | (simp only [i64_w, i32_w]; rw [c8b0]) | skip)
        have H' := Aside0.mk H
        clear H
        have hcz9_0 : w5.cell? ⟨gb101, 0, none⟩ = some (.slice A0_0 l0_0.length c0_0) := (blk_cell BK101.out 0).trans rfl
        have hcz9_1 : w5.cell? ⟨gb101, 1, none⟩ = some (.slice A0_1 l0_1.length c0_1) := (blk_cell BK101.out 1).trans rfl
        have hfz9_0 := blk_frozen BK101.out 0
        have hfz9_1 := blk_frozen BK101.out 1
        go_wp2_with (first | ((with_reducible refine gate_callee (f := 54) rfl ?_); refine goesL_ (some 9) rfl rfl Try.func54 (by kernel_rfl) rfl #[.agg #[.slice A0_0 l0_0.length c0_0, .slice A0_1 l0_1.length c0_1], .int .i64 a1] rfl (by (try simp only [List.map_toArray, List.map_cons, List.map_nil]); first | done | rfl | (simp only [List.length_drop, List.length_take]; rfl)) ?_; (with_reducible refine (imprimaturref06_Shape_in.calls _ _ l0_0 _ _ l0_1 a1 true _ ?side1 ?side2 ?side3 ?side4 A6.out).mono ?_); (case side1 => repeat (first | exact (Kd.C_below HR0_0.out HB.out) | (with_reducible refine Kd.C_alloc ?_ _) | (with_reducible refine Kd.C_drewN ?_ _) | (with_reducible refine Kd.C_drew ?_))); (case side2 => exact HC0_0.out); (case side3 => repeat (first | exact (Kd.C_below HR0_1.out HB.out) | (with_reducible refine Kd.C_alloc ?_ _) | (with_reducible refine Kd.C_drewN ?_ _) | (with_reducible refine Kd.C_drew ?_))); (case side4 => exact HC0_1.out); rintro e w10 ⟨rfl, hb⟩; refine ⟨_, rfl, ?_⟩; have n0_ := Aside0.mk (blk_below (g := gb101) (o := .cells #[.slice A0_0 l0_0.length c0_0, .slice A0_1 l0_1.length c0_1] 25 (0, 0)) (by (with_reducible repeat (first | refine blk_drewN ?_ _ | refine blk_drew ?_ | refine blk_alloc ?_ _)); exact BK101.out) hb); have n1_ := Aside0.mk (below_step (by repeat (first | (with_reducible first | exact HB.out | apply below_alloc | apply pw_below_drewN | apply below_drew1 | refine below_set ?_ GE101.out) | exact HB.out)) hb); clear BK101; clear HB; have BK101 := n0_; have HB := n1_; clear n0_ n1_; (try clear hb); (try clear hb2); (try clear hk); (try clear hi)))
        go_meet
        case rel => exact ⟨_, (true), (by first | rfl | (simp; done) | (simp [*]; done)), H', ⟨by first | omega | exact Nat.le_refl _⟩, ⟨by (with_reducible repeat (first | refine blk_drewN ?_ _ | refine blk_drew ?_ | refine blk_alloc ?_ _)); exact BK101.out⟩, ⟨by repeat (first | (with_reducible first | exact HB.out | apply below_alloc | apply pw_below_drewN | apply below_drew1 | refine below_set ?_ GE101.out) | exact HB.out)⟩⟩
      · rw [if_neg c8] at H
        have c8b0 : decide (a2 < (-1)) = false := decide_eq_false c8
        clear c8
        (first | rw [c8b0] | (simp only [i64_w, i32_w]; rw [c8b0]) | skip)
        have H' := Aside0.mk H
        clear H
        have hcz11_0 : w5.cell? ⟨gb101, 0, none⟩ = some (.slice A0_0 l0_0.length c0_0) := (blk_cell BK101.out 0).trans rfl
        have hcz11_1 : w5.cell? ⟨gb101, 1, none⟩ = some (.slice A0_1 l0_1.length c0_1) := (blk_cell BK101.out 1).trans rfl
        have hfz11_0 := blk_frozen BK101.out 0
        have hfz11_1 := blk_frozen BK101.out 1
        go_wp2_with (first | ((with_reducible refine gate_callee (f := 54) rfl ?_); refine goesL_ (some 9) rfl rfl Try.func54 (by kernel_rfl) rfl #[.agg #[.slice A0_0 l0_0.length c0_0, .slice A0_1 l0_1.length c0_1], .int .i64 a1] rfl (by (try simp only [List.map_toArray, List.map_cons, List.map_nil]); first | done | rfl | (simp only [List.length_drop, List.length_take]; rfl)) ?_; (with_reducible refine (imprimaturref06_Shape_in.calls _ _ l0_0 _ _ l0_1 a1 true _ ?side1 ?side2 ?side3 ?side4 A6.out).mono ?_); (case side1 => repeat (first | exact (Kd.C_below HR0_0.out HB.out) | (with_reducible refine Kd.C_alloc ?_ _) | (with_reducible refine Kd.C_drewN ?_ _) | (with_reducible refine Kd.C_drew ?_))); (case side2 => exact HC0_0.out); (case side3 => repeat (first | exact (Kd.C_below HR0_1.out HB.out) | (with_reducible refine Kd.C_alloc ?_ _) | (with_reducible refine Kd.C_drewN ?_ _) | (with_reducible refine Kd.C_drew ?_))); (case side4 => exact HC0_1.out); rintro e w12 ⟨rfl, hb⟩; refine ⟨_, rfl, ?_⟩; have n0_ := Aside0.mk (blk_below (g := gb101) (o := .cells #[.slice A0_0 l0_0.length c0_0, .slice A0_1 l0_1.length c0_1] 25 (0, 0)) (by (with_reducible repeat (first | refine blk_drewN ?_ _ | refine blk_drew ?_ | refine blk_alloc ?_ _)); exact BK101.out) hb); have n1_ := Aside0.mk (below_step (by repeat (first | (with_reducible first | exact HB.out | apply below_alloc | apply pw_below_drewN | apply below_drew1 | refine below_set ?_ GE101.out) | exact HB.out)) hb); clear BK101; clear HB; have BK101 := n0_; have HB := n1_; clear n0_ n1_; (try clear hb); (try clear hb2); (try clear hk); (try clear hi); have hcz13_0 : w12.cell? ⟨gb101, 0, none⟩ = some (.slice A0_0 l0_0.length c0_0) := (blk_cell BK101.out 0).trans rfl; have hcz13_1 : w12.cell? ⟨gb101, 1, none⟩ = some (.slice A0_1 l0_1.length c0_1) := (blk_cell BK101.out 1).trans rfl; have hfz13_0 := blk_frozen BK101.out 0; have hfz13_1 := blk_frozen BK101.out 1))
        go_meet
        case rel => exact ⟨_, (decide (a2 ≥ (l0_0.length : Int))), (by first | rfl | (simp; done) | (simp [*]; done)), H', ⟨by first | omega | exact Nat.le_refl _⟩, ⟨by (with_reducible repeat (first | refine blk_drewN ?_ _ | refine blk_drew ?_ | refine blk_alloc ?_ _)); exact BK101.out⟩, ⟨by repeat (first | (with_reducible first | exact HB.out | apply below_alloc | apply pw_below_drewN | apply below_drew1 | refine below_set ?_ GE101.out) | exact HB.out)⟩⟩
    · replace c7 := Bool.eq_false_iff.mpr c7
      subst c7
      have H1 : (imprimaturref06_Shape_Under.j0 k a1 a2 true l0_0 l0_1) = some r := by rw [if_neg (show ¬ (false = true) by decide)] at H; exact H
      clear H
      have H := H1
      clear H1
      have H' := Aside0.mk H
      clear H
      have hcz14_0 : w5.cell? ⟨gb101, 0, none⟩ = some (.slice A0_0 l0_0.length c0_0) := (blk_cell BK101.out 0).trans rfl
      have hcz14_1 : w5.cell? ⟨gb101, 1, none⟩ = some (.slice A0_1 l0_1.length c0_1) := (blk_cell BK101.out 1).trans rfl
      have hfz14_0 := blk_frozen BK101.out 0
      have hfz14_1 := blk_frozen BK101.out 1
      go_wp2_with (first | ((with_reducible refine gate_callee (f := 54) rfl ?_); refine goesL_ (some 9) rfl rfl Try.func54 (by kernel_rfl) rfl #[.agg #[.slice A0_0 l0_0.length c0_0, .slice A0_1 l0_1.length c0_1], .int .i64 a1] rfl (by (try simp only [List.map_toArray, List.map_cons, List.map_nil]); first | done | rfl | (simp only [List.length_drop, List.length_take]; rfl)) ?_; (with_reducible refine (imprimaturref06_Shape_in.calls _ _ l0_0 _ _ l0_1 a1 false _ ?side1 ?side2 ?side3 ?side4 A6.out).mono ?_); (case side1 => repeat (first | exact (Kd.C_below HR0_0.out HB.out) | (with_reducible refine Kd.C_alloc ?_ _) | (with_reducible refine Kd.C_drewN ?_ _) | (with_reducible refine Kd.C_drew ?_))); (case side2 => exact HC0_0.out); (case side3 => repeat (first | exact (Kd.C_below HR0_1.out HB.out) | (with_reducible refine Kd.C_alloc ?_ _) | (with_reducible refine Kd.C_drewN ?_ _) | (with_reducible refine Kd.C_drew ?_))); (case side4 => exact HC0_1.out); rintro e w15 ⟨rfl, hb⟩; refine ⟨_, rfl, ?_⟩; have n0_ := Aside0.mk (blk_below (g := gb101) (o := .cells #[.slice A0_0 l0_0.length c0_0, .slice A0_1 l0_1.length c0_1] 25 (0, 0)) (by (with_reducible repeat (first | refine blk_drewN ?_ _ | refine blk_drew ?_ | refine blk_alloc ?_ _)); exact BK101.out) hb); have n1_ := Aside0.mk (below_step (by repeat (first | (with_reducible first | exact HB.out | apply below_alloc | apply pw_below_drewN | apply below_drew1 | refine below_set ?_ GE101.out) | exact HB.out)) hb); clear BK101; clear HB; have BK101 := n0_; have HB := n1_; clear n0_ n1_; (try clear hb); (try clear hb2); (try clear hk); (try clear hi)))
      go_meet
      case rel => exact ⟨_, (true), (by first | rfl | (simp; done) | (simp [*]; done)), H', ⟨by first | omega | exact Nat.le_refl _⟩, ⟨by (with_reducible repeat (first | refine blk_drewN ?_ _ | refine blk_drew ?_ | refine blk_alloc ?_ _)); exact BK101.out⟩, ⟨by repeat (first | (with_reducible first | exact HB.out | apply below_alloc | apply pw_below_drewN | apply below_drew1 | refine below_set ?_ GE101.out) | exact HB.out)⟩⟩
  case rest =>
    clear HC4
    try clear p2
    try clear c4
    try clear c5
    try clear c7
    try clear c8
    try clear c8b0
    try clear hcz11_0
    try clear hcz11_1
    try clear hcz13_0
    try clear hcz13_1
    try clear hcz14_0
    try clear hcz14_1
    try clear hcz9_0
    try clear hcz9_1
    try clear hfz11_0
    try clear hfz11_1
    try clear hfz13_0
    try clear hfz13_1
    try clear hfz14_0
    try clear hfz14_1
    try clear hfz9_0
    try clear hfz9_1
    obtain ⟨kq, x21_3, rfl, HA, HJ3, BK101, HB⟩ := hcut
    cases kq with
    | zero => exact absurd HA.out (by simp [imprimaturref06_Shape_Under.j0])
    | succ kj3 =>
      have H := HA.out
      clear HA
      simp only [imprimaturref06_Shape_Under.j0] at H
      by_cases c16 : x21_3 = true
      · subst c16
        have H1 : (some false) = some r := by rw [if_pos rfl] at H; exact H
        clear H
        have H := H1
        clear H1
        obtain rfl := Option.some.inj H
        go_wp2
        go_ret
        exact ⟨by first | rfl | (simp [errW_none, errW_some] <;> rfl) | (simp [*, errW_none, errW_some] <;> rfl), by repeat (first | (with_reducible first | exact HB.out | apply below_alloc | apply pw_below_drewN | apply below_drew1 | refine below_set ?_ GE101.out) | exact HB.out)⟩
      · replace c16 := Bool.eq_false_iff.mpr c16
        subst c16
        have H1 : (imprimaturref06_Shape_Under.l0 kj3 a1 a2 l0_0 l0_1) = some r := by rw [if_neg (show ¬ (false = true) by decide)] at H; exact H
        clear H
        have H := H1
        clear H1
        have H' := Aside0.mk H
        clear H
        go_wp2
        go_loopg [1] kj3 (fun kq v1 w' => ∃ (x1_2 : Int), v1 = .int .i64 x1_2 ∧ Aside0 (imprimaturref06_Shape_Under.l0 kq x1_2 a2 l0_0 l0_1 = some r) ∧ Aside0 (kq ≤ kj3) ∧ Aside0 (w'.heap[gb101]? = some (.cells #[(.slice A0_0 l0_0.length c0_0), (.slice A0_1 l0_1.length c0_1)] 25 (0, 0))) ∧ Aside0 (Below w.heap.size w w'))
        case atStart => exact ⟨(a1), (by first | rfl | (simp; done) | (simp [*]; done)), H', ⟨Nat.le_refl _⟩, ⟨by (with_reducible repeat (first | refine blk_drewN ?_ _ | refine blk_drew ?_ | refine blk_alloc ?_ _)); exact BK101.out⟩, ⟨by repeat (first | (with_reducible first | exact HB.out | apply below_alloc | apply pw_below_drewN | apply below_drew1 | refine below_set ?_ GE101.out) | exact HB.out)⟩⟩
        case round =>
          clear H'
          try clear c1
          try clear p2
          try clear c4
          try clear c5
          try clear c7
          try clear c8
          try clear c8b0
          try clear c16
          try clear hcz11_0
          try clear hcz11_1
          try clear hcz13_0
          try clear hcz13_1
          try clear hcz14_0
          try clear hcz14_1
          try clear hcz9_0
          try clear hcz9_1
          try clear hfz11_0
          try clear hfz11_1
          try clear hfz13_0
          try clear hfz13_1
          try clear hfz14_0
          try clear hfz14_1
          try clear hfz9_0
          try clear hfz9_1
          try clear p2
          obtain ⟨x1_2, rfl, HA, HK2, BK101, HB⟩ := hrel
          cases gk with
          | zero => exact absurd HA.out (by simp [imprimaturref06_Shape_Under.l0])
          | succ k2 =>
            have H := HA.out
            clear HA
            simp only [imprimaturref06_Shape_Under.l0] at H
            by_cases c17 : x1_2 ≥ 0
            · rw [if_pos c17] at H
              have c17b0 : decide (0 ≤ x1_2) = true := decide_eq_true c17
              clear c17
              by_cases c18 : x1_2 = a2
              · rw [if_pos c18] at H
                have c18b0 : (x1_2 == a2) = true := beq_iff_eq.mpr c18
                have c18b1 : (x1_2 != a2) = false := bne_eq_false_iff_eq.mpr c18
                clear c18
                obtain rfl := Option.some.inj H
                go_wp2
                go_ret
                exact ⟨by first | rfl | (simp [errW_none, errW_some] <;> rfl) | (simp [*, errW_none, errW_some] <;> rfl), by repeat (first | (with_reducible first | exact HB.out | apply below_alloc | apply pw_below_drewN | apply below_drew1 | refine below_set ?_ GE101.out) | exact HB.out)⟩
              · rw [if_neg c18] at H
                have c18b0 : (x1_2 == a2) = false := beq_eq_false_iff_ne.mpr c18
                have c18b1 : (x1_2 != a2) = true := bne_iff_ne.mpr c18
                by_cases c19 : 0 ≤ x1_2
                · rw [if_pos c19] at H
                  have c19b0 : decide (0 ≤ x1_2) = true := decide_eq_true c19
                  clear c19
                  by_cases c20 : x1_2 < (l0_1.length : Int)
                  · rw [if_pos c20] at H
                    have c20b0 : decide (x1_2 < (l0_1.length : Int)) = true := decide_eq_true c20
                    clear c20
                    have H' := Aside0.mk H
                    clear H
                    have hcz21_0 : wr.cell? ⟨gb101, 0, none⟩ = some (.slice A0_0 l0_0.length c0_0) := (blk_cell BK101.out 0).trans rfl
                    have hcz21_1 : wr.cell? ⟨gb101, 1, none⟩ = some (.slice A0_1 l0_1.length c0_1) := (blk_cell BK101.out 1).trans rfl
                    have hfz21_0 := blk_frozen BK101.out 0
                    have hfz21_1 := blk_frozen BK101.out 1
                    have p103 : 0 ≤ (x1_2 : Int) := of_decide_eq_true (by first | (with_reducible assumption) | assumption)
                    have q103 : x1_2 < (l0_1.length : Int) := of_decide_eq_true (by first | (with_reducible assumption) | assumption)
                    obtain ⟨ad103, e103, hx103_0⟩ := Kd.at_int HR0_1.out x1_2 p103 q103
                    cases e103
                    replace hx103_0 := (HB.out.cell (World.block_lt_of_cell? w _ hx103_0)).trans hx103_0
                    replace p103 := eq_true p103
                    replace q103 := eq_true q103
                    go_wp2
                    go_roundg k2
                    case measure => have := HJ3.out; have := HK2.out; omega
                    case rel => exact ⟨(rd l0_1 x1_2), (by first | rfl | (simp; done) | (simp [*]; done)), H', ⟨by have := HJ3.out; have := HK2.out; omega⟩, ⟨by (with_reducible repeat (first | refine blk_drewN ?_ _ | refine blk_drew ?_ | refine blk_alloc ?_ _)); exact BK101.out⟩, ⟨by repeat (first | (with_reducible first | exact HB.out | apply below_alloc | apply pw_below_drewN | apply below_drew1 | refine below_set ?_ GE101.out) | exact HB.out)⟩⟩
                  · rw [if_neg c20] at H
                    exact absurd H (by simp)
                · rw [if_neg c19] at H
                  exact absurd H (by simp)
            · rw [if_neg c17] at H
              have c17b0 : decide (0 ≤ x1_2) = false := decide_eq_false c17
              clear c17
              obtain rfl := Option.some.inj H
              go_wp2
              go_ret
              exact ⟨by first | rfl | (simp [errW_none, errW_some] <;> rfl) | (simp [*, errW_none, errW_some] <;> rfl), by repeat (first | (with_reducible first | exact HB.out | apply below_alloc | apply pw_below_drewN | apply below_drew1 | refine below_set ?_ GE101.out) | exact HB.out)⟩

end Go.Proofs.Ytnomeokicfpidaa.Q
/-
  What lies in what, as a test; the states of a set that lie in one. Conditions: each parent stands ahead of its states.
-/
namespace Go.Proofs.Ytnomeokicfpidaa.M
open Go.RowKit Go.Proofs.YtnomeokicfpidaaW.PrintWords Go.Proofs.YtnomeokicfpidaaW.PrintLast Go.Proofs.YtnomeokicfpidaaW.PrintMore Go.Proofs.Ytnomeokicfpidaa.Q
set_option linter.unusedVariables false

def unF (P : List Int) : Nat → Int → Int → Bool
  | 0, a, b => a == b
  | f + 1, a, b => if a = b then true else if 0 ≤ a ∧ a < P.length then unF P f (rd P a) b else false
def unB (P : List Int) (a b : Int) : Bool := unF P (P.length + 1) a b

theorem unF_iff {P : List Int} (hT : Tree P) : ∀ (f : Nat) (a b : Int), -1 ≤ a → a < f → a < P.length → (unF P f a b = true ↔ Un P a b) := by
  intro f
  induction f with
  | zero =>
    intro a b h0 h1 h2
    obtain rfl : a = -1 := by omega
    rw [unF, beq_iff_eq]
    constructor
    · rintro rfl; exact .refl _
    · intro h
      exact Classical.byContradiction fun e => by have := (h.cases' e).1; omega
  | succ f ih =>
    intro a b h0 h1 h2
    rw [unF]
    by_cases e : a = b
    · rw [if_pos e]; subst e; exact ⟨fun _ => .refl _, fun _ => rfl⟩
    · rw [if_neg e]
      by_cases g : 0 ≤ a ∧ a < P.length
      · have := hT.rdP g.1 g.2
        rw [if_pos g, ih (rd P a) b (by omega) (by omega) (by omega)]
        exact ⟨fun h => .up g.1 g.2 h, fun h => (h.cases' e).2.2⟩
      · rw [if_neg g]
        exact ⟨fun h => absurd h (by simp), fun h => absurd ⟨(h.cases' e).1, (h.cases' e).2.1⟩ g⟩
theorem unB_iff {P : List Int} (hT : Tree P) {a b : Int} (h0 : -1 ≤ a) (h1 : a < P.length) : unB P a b = true ↔ Un P a b := unF_iff hT _ a b h0 (by omega) h1
theorem unB_step {P : List Int} (hT : Tree P) {a b : Int} (h0 : 0 ≤ a) (h1 : a < P.length) (hne : a ≠ b) : unB P a b = unB P (rd P a) b := by
  have := hT.rdP h0 h1
  rw [Bool.eq_iff_iff, unB_iff hT (by omega) h1, unB_iff hT (by omega) (by omega)]
  exact ⟨fun h => (h.cases' hne).2.2, fun h => .up h0 h1 h⟩
theorem unB_stop {P : List Int} (hT : Tree P) {a b : Int} (h0 : -1 ≤ a) (h1 : a < P.length) (h : a ≤ b) : unB P a b = (a == b) := by
  rw [Bool.eq_iff_iff, unB_iff hT h0 h1, beq_iff_eq]
  constructor
  · intro k; have := k.le hT; omega
  · rintro rfl; exact .refl _

theorem Ok.tree {K P : List Int} (h : Ok K P) : Tree P := fun j hj => by
  obtain ⟨_, _, b1, b2, _⟩ := okS_iff.1 (h.2.2.1 j (by have := h.1; omega))
  exact ⟨b1, b2⟩

theorem Under_l0 {K P : List Int} (hT : Tree P) (b : Int) (hb : -1 ≤ b) : ∀ (d : Nat) (a : Int), -1 ≤ a → a < P.length → a < d → Ev (fun k => shape_Under.l0 k a b K P) (unB P a b) := by
  intro d
  induction d with
  | zero =>
    intro a h0 h1 h2
    refine Ev.ret (fun k => ?_)
    simp only [shape_Under.l0]
    rw [if_neg (by omega), unB_stop hT h0 h1 (by omega)]
  | succ d ih =>
    intro a h0 h1 h2
    by_cases g : a > b
    · have := hT.rdP (a := a) (by omega) h1
      rw [unB_step hT (by omega) h1 (by omega)]
      refine Ev.st (ih (rd P a) (by omega) (by omega) (by omega)) (fun k => ?_)
      simp only [shape_Under.l0]
      rw [if_pos g, if_pos (by omega), if_pos h1]
    · refine Ev.ret (fun k => ?_)
      simp only [shape_Under.l0]
      rw [if_neg g, unB_stop hT h0 h1 (by omega)]
theorem Under_f {K P : List Int} (hn : P.length = K.length) (hT : Tree P) {a b : Int} (h0 : 0 ≤ a) (h1 : a < K.length) (b0 : -1 ≤ b) (b1 : b < K.length) : Ev (fun k => shape_Under.f k K P a b) (unB P a b) := by
  have l0 := Under_l0 (K := K) hT b b0 (K.length) a (by omega) (by omega) (by omega)
  have hj : Ev (fun k => shape_Under.j0 k a b false K P) (unB P a b) := by
    refine Ev.st l0 (fun k => ?_)
    simp only [shape_Under.j0]; rw [if_neg (by simp)]
  refine Ev.cg hj (fun k => ?_)
  unfold shape_Under.f shape_Shape_is.f
  rw [if_pos h0, Option.bind_some, if_pos (by simpa using h1)]
  by_cases e : b = -1
  · rw [if_pos e]
  · rw [if_neg e, if_pos (by omega), Option.bind_some, decide_eq_true b1]; rfl

theorem rUnder_l0 {K P : List Int} (hT : Tree P) (b : Int) (hb : -1 ≤ b) : ∀ (d : Nat) (a : Int), -1 ≤ a → a < P.length → a < d → Ev (fun k => imprimaturref06_Shape_Under.l0 k a b K P) (unB P a b) := by
  intro d
  induction d with
  | zero =>
    intro a h0 h1 h2
    refine Ev.ret (fun k => ?_)
    simp only [imprimaturref06_Shape_Under.l0]
    rw [if_neg (by omega), unB_stop hT h0 h1 (by omega)]
  | succ d ih =>
    intro a h0 h1 h2
    by_cases g : a ≥ 0
    · have := hT.rdP (a := a) (by omega) h1
      by_cases e : a = b
      · refine Ev.ret (fun k => ?_)
        simp only [imprimaturref06_Shape_Under.l0]
        rw [if_pos g, if_pos e, unB_stop hT h0 h1 (by omega)]
      · rw [unB_step hT (by omega) h1 e]
        refine Ev.st (ih (rd P a) (by omega) (by omega) (by omega)) (fun k => ?_)
        simp only [imprimaturref06_Shape_Under.l0]
        rw [if_pos g, if_neg e, if_pos (by omega), if_pos h1]
    · refine Ev.ret (fun k => ?_)
      simp only [imprimaturref06_Shape_Under.l0]
      rw [if_neg g, unB_stop hT h0 h1 (by omega)]
theorem rUnder_f {K P : List Int} (hn : P.length = K.length) (hT : Tree P) {a b : Int} (h0 : 0 ≤ a) (h1 : a < K.length) (b0 : -1 ≤ b) (b1 : b < K.length) : Ev (fun k => imprimaturref06_Shape_Under.f k K P a b) (unB P a b) := by
  have l0 := rUnder_l0 (K := K) hT b b0 (K.length) a (by omega) (by omega) (by omega)
  have hj : Ev (fun k => imprimaturref06_Shape_Under.j0 k a b false K P) (unB P a b) := by
    refine Ev.st l0 (fun k => ?_)
    simp only [imprimaturref06_Shape_Under.j0]; rw [if_neg (by simp)]
  refine Ev.cg hj (fun k => ?_)
  unfold imprimaturref06_Shape_Under.f imprimaturref06_Shape_in.f
  rw [if_pos h0, Option.bind_some, if_pos (by simpa using h1), if_neg (by omega), decide_eq_false (by omega)]

/-- Is state i in the set s: as the code asks it. -/
def inB (s : Int) (i : Int) : Bool := (Go.bits .and .u32 (shr .u32 s i) 1) == 1
def belowFrom (P : List Int) (s a : Int) (i d : Nat) : List Int := ((List.range' i d).filter (fun j : Nat => decide (¬ (j : Int) = a) && (inB s (j : Int) && unB P (j : Int) a))).map (fun j : Nat => (j : Int))
def belowL (K P : List Int) (s a : Int) : List Int := belowFrom P s a 0 K.length
theorem belowFrom_succ (P : List Int) (s a : Int) (i d : Nat) : belowFrom P s a i (d + 1) = if (i : Int) ≠ a ∧ inB s i = true ∧ unB P i a = true then (i : Int) :: belowFrom P s a (i + 1) d else belowFrom P s a (i + 1) d := by
  unfold belowFrom
  rw [List.range'_succ, List.filter_cons]
  by_cases h : (i : Int) ≠ a ∧ inB s i = true ∧ unB P i a = true
  · rw [if_pos h, if_pos (by simp [h.1, h.2.1, h.2.2])]; rfl
  · rw [if_neg h, if_neg (by simpa using h)]
theorem below_l0 {K P : List Int} (hn : P.length = K.length) (hT : Tree P) (h24 : K.length < 1000000) (s a : Int) (a0 : -1 ≤ a) (a1 : a < K.length) : ∀ (d i : Nat) (acc : List Int), i + d = K.length → acc.length ≤ i →
    Ev (fun k => enter_below.l0 k s a acc (K.length : Int) (i : Int) K P) (acc ++ belowFrom P s a i d) := by
  intro d
  induction d with
  | zero =>
    intro i acc hi ha
    refine Ev.ret (fun k => ?_)
    simp only [enter_below.l0]
    rw [if_neg (by omega)]
    simp [belowFrom]
  | succ d ih =>
    intro i acc hi ha
    rw [belowFrom_succ]
    have hw := w1 i (by omega)
    by_cases e : (i : Int) = a
    · rw [if_neg (by simp [e])]
      refine Ev.st (ih (i + 1) acc (by omega) (by omega)) (fun k => ?_)
      simp only [enter_below.l0]
      rw [if_pos (by omega), if_pos e, hw]
    · have hin : enter_in.f s (i : Int) = some (inB s i) := by
        unfold enter_in.f inB; rw [if_pos (by omega), if_pos (by omega)]
      by_cases g : inB s i = true
      · refine Ev.st (f := fun k => (shape_Under.f k K P (i : Int) a).bind fun t103 => (if t103 = true then (if acc.length < 17592186044416 then (enter_below.l0 k s a (acc ++ [(i : Int)]) (K.length : Int) (wrap64 ((i : Int) + 1)) K P) else (none)) else (enter_below.l0 k s a acc (K.length : Int) (wrap64 ((i : Int) + 1)) K P))) ?_ (fun k => ?_)
        · refine Ev.bd (Under_f hn hT (by omega) (by omega) a0 a1) ?_
          simp only [hw]
          by_cases u : unB P i a = true
          · rw [if_pos ⟨e, g, u⟩]
            refine Ev.pos u (Ev.pos (by omega) ?_)
            exact Ev.val (ih (i + 1) (acc ++ [(i : Int)]) (by omega) (by simp; omega)) (by simp)
          · rw [if_neg (fun h => u h.2.2)]
            exact Ev.neg u (ih (i + 1) acc (by omega) (by omega))
        · simp only [enter_below.l0]
          rw [if_pos (by omega), if_neg e, hin, Option.bind_some, if_pos g]
      · rw [if_neg (fun h => g h.2.1)]
        refine Ev.st (ih (i + 1) acc (by omega) (by omega)) (fun k => ?_)
        simp only [enter_below.l0]
        rw [if_pos (by omega), if_neg e, hin, Option.bind_some, if_neg g, hw]
theorem below_f {K P : List Int} (hn : P.length = K.length) (hT : Tree P) (h24 : K.length < 1000000) (s a : Int) (a0 : -1 ≤ a) (a1 : a < K.length) : Ev (fun k => enter_below.f k K P s a) (belowL K P s a) := by
  have h := below_l0 hn hT h24 s a a0 a1 K.length 0 [] (by omega) (by simp)
  simpa [enter_below.f, belowL] using h
theorem mem_below {K P : List Int} {s a x : Int} : x ∈ belowL K P s a ↔ ∃ j : Nat, x = j ∧ j < K.length ∧ (j : Int) ≠ a ∧ inB s j = true ∧ unB P j a = true := by
  unfold belowL belowFrom
  simp only [List.mem_map, List.mem_filter, List.mem_range'_1, Bool.and_eq_true, decide_eq_true_eq]
  constructor
  · rintro ⟨j, ⟨h1, h2, h3, h4⟩, rfl⟩; exact ⟨j, rfl, by omega, h2, h3, h4⟩
  · rintro ⟨j, rfl, h1, h2, h3, h4⟩; exact ⟨j, ⟨by omega, h2, h3, h4⟩, rfl⟩
theorem below_len (K P : List Int) (s a : Int) : (belowL K P s a).length ≤ K.length := by
  unfold belowL belowFrom
  rw [List.length_map]
  exact Nat.le_trans (List.length_filter_le _ _) (by simp)
end Go.Proofs.Ytnomeokicfpidaa.M
/-
  The walk that enters states, by hand: any state. Conditions: a shape that is valid.
-/
namespace Go.Proofs.Ytnomeokicfpidaa.EW
open Go.RowKit Go.Proofs.YtnomeokicfpidaaW.PrintWords Go.Proofs.YtnomeokicfpidaaW.PrintLast Go.Proofs.YtnomeokicfpidaaW.PrintMore Go.Proofs.Ytnomeokicfpidaa.Q Go.Proofs.Ytnomeokicfpidaa.M
attribute [local go_sem] max2_int min2_int max_two min_two max_three min_three max_four min_four
set_option linter.unusedVariables false
set_option linter.unusedSimpArgs false
-- uses: shape_Initial.calls enter_below.calls

set_option maxHeartbeats 8000000 in
set_option maxRecDepth 100000 in
theorem in_hist {w0 : World} {AK AP AQ : Option Addr} {cK cP cQ : Nat} {lK lP lQ : List Int} {g : Nat}
    (hK : Kd.C (Kd.int .i64) w0 AK lK.length lK) (hcK : lK.length ≤ cK) (hP : Kd.C (Kd.int .i64) w0 AP lP.length lP) (hcP : lP.length ≤ cP)
    (hn : lP.length = lK.length) (a : Int) (h0 : 0 ≤ a) (h1 : a < lK.length) (b : Bool) (hb3 : (rd lK a == 3) = !b) (hb4 : (rd lK a == 4) = b) (r : List Int) (w : World) (v : Value) (out : List Int)
    (hW : WW w0 w g (.slice AK lK.length cK) (.slice AP lP.length cP) (.slice AQ lQ.length cQ) v out)
    (IH : ∀ (w : World), WW w0 w g (.slice AK lK.length cK) (.slice AP lP.length cP) (.slice AQ lQ.length cQ) v out → Calls Try.prog 59 #[.pointer (some ⟨g, 0, none⟩), .int .i64 (rd lP a), .bool b] w (Put w0 w g (.slice AK lK.length cK) (.slice AP lP.length cP) (.slice AQ lQ.length cQ) v r)) :
    Calls Try.prog 52 #[.pointer (some ⟨g, 0, none⟩), .int .i64 a] w (Put w0 w g (.slice AK lK.length cK) (.slice AP lP.length cP) (.slice AQ lQ.length cQ) v r) := by
  have hu24 := Try.underlying24
  have hu70 := Try.underlying70
  have hc0 : w.cell? ⟨g, 0, none⟩ = some (.slice AK lK.length cK) := (blk_cell hW.blk 0).trans rfl
  have hc1 : w.cell? ⟨g, 1, none⟩ = some (.slice AP lP.length cP) := (blk_cell hW.blk 1).trans rfl
  obtain ⟨ad, e, hx⟩ := Kd.at_int (Kd.C_below hK hW.below) a h0 (by omega)
  subst e
  obtain ⟨adP, e, hxP⟩ := Kd.at_int (Kd.C_below hP hW.below) a h0 (by omega)
  subst e
  have p0 := eq_true h0
  have p1 := eq_true h1
  have p2 := eq_true (show a < (lP.length : Int) by omega)
  have HW := Aside0.mk hW
  have HN := Aside0.mk hn
  have HH := Aside0.mk IH
  clear hW hn IH h0 h1
  cases b with
  | true =>
    have t3 : (rd lK a == 3) = false := hb3
    have t4 : (rd lK a == 4) = true := hb4
    clear hb3 hb4
    go_enter Try.func52, Try.ntmps52
    go_wp2
    go_still_tail 18, (by kernel_rfl)
    have hWn := HW.out.step (below_drew (Below.refl w.heap.size w))
    have hFn := Fr.of_below (below_drew (Below.refl w.heap.size w)) g v
    have HWN := Aside0.mk hWn
    have HFN := Aside0.mk hFn
    clear hWn hFn
    go_wp2_with (go_at_call 59; (with_reducible refine (HH.out _ HWN.out).mono ?_); rintro e w4 ⟨rfl, v', hW4, hF4⟩)
    refine bodyPost_ret (v := .tuple #[]) (by simp [results, Try.results52, go_sem]) rfl ?_
    exact ⟨rfl, v', hW4, HFN.out.trans hF4⟩
  | false =>
    have t3 : (rd lK a == 3) = true := hb3
    have t4 : (rd lK a == 4) = false := hb4
    clear hb3 hb4
    go_enter Try.func52, Try.ntmps52
    go_wp2
    go_still_tail 18, (by kernel_rfl)
    have hWn := HW.out.step (below_drew (Below.refl w.heap.size w))
    have hFn := Fr.of_below (below_drew (Below.refl w.heap.size w)) g v
    have HWN := Aside0.mk hWn
    have HFN := Aside0.mk hFn
    clear hWn hFn
    go_wp2_with (go_at_call 59; (with_reducible refine (HH.out _ HWN.out).mono ?_); rintro e w4 ⟨rfl, v', hW4, hF4⟩)
    refine bodyPost_ret (v := .tuple #[]) (by simp [results, Try.results52, go_sem]) rfl ?_
    exact ⟨rfl, v', hW4, HFN.out.trans hF4⟩

/-- What any state enters. -/
def inA (K P Q : List Int) (a : Int) : List Int :=
  if rd K a = 3 then backR K P (inS K P K.length) (belowL K P (wasS Q (rd P a)) (rd P a)) (rd P a) false
  else if rd K a = 4 then backR K P (inS K P K.length) (belowL K P (wasS Q (rd P a)) (rd P a)) (rd P a) true
  else inS K P K.length a
/-- The way from a state down to another one. -/
def pathR (K P Q : List Int) (z : Int) : Nat → Int → List Int
  | 0, _ => []
  | f + 1, a => if a = z then inA K P Q z else a :: ((kids P a).flatMap (fun k => if unB P z k = true then pathR K P Q z f k else []) ++ (kids P a).flatMap (fun k => if rd K a = 2 ∧ unB P z k = false then inA K P Q k else []))

theorem rd_range {K P : List Int} (h : Ok K P) {a : Int} (h0 : 0 ≤ a) (h1 : a < K.length) : 1 ≤ rd K a ∧ rd K a ≤ 4 := by
  obtain ⟨a1, a2, _⟩ := okS_iff.1 (h.2.2.1 a.toNat (by omega))
  unfold rd; exact ⟨a1, a2⟩
theorem in_any {w0 : World} {AK AP AQ : Option Addr} {cK cP cQ : Nat} {lK lP lQ : List Int} {g : Nat}
    (hK : Kd.C (Kd.int .i64) w0 AK lK.length lK) (hcK : lK.length ≤ cK) (hP : Kd.C (Kd.int .i64) w0 AP lP.length lP) (hcP : lP.length ≤ cP) (hQ : Kd.C (Kd.int .u32) w0 AQ lQ.length lQ) (hcQ : lQ.length ≤ cQ) (hO : Ok lK lP)
    (a : Int) (h0 : 0 ≤ a) (h1 : a < lK.length) (w : World) (v : Value) (out : List Int)
    (hW : WW w0 w g (.slice AK lK.length cK) (.slice AP lP.length cP) (.slice AQ lQ.length cQ) v out) (hl : (out ++ inA lK lP lQ a).length < 17592186044416) :
    Calls Try.prog 52 #[.pointer (some ⟨g, 0, none⟩), .int .i64 a] w (Put w0 w g (.slice AK lK.length cK) (.slice AP lP.length cP) (.slice AQ lQ.length cQ) v (out ++ inA lK lP lQ a)) := by
  have hn := hO.1
  have h24 := hO.2.2.2.2
  have hT := hO.tree
  have hr := rd_range hO h0 h1
  have hp := hT.rdP h0 (by omega)
  obtain ⟨_, _, b1, b2, b3⟩ := okS_iff.1 (hO.2.2.1 a.toNat (by omega))
  have e1 : lP.getD a.toNat 0 = rd lP a := rfl
  have e2 : lK.getD a.toNat 0 = rd lK a := rfl
  rw [e1] at b1 b2 b3
  rw [e2] at b3
  have hS := in_solid (AQ := AQ) (cQ := cQ) (lQ := lQ) (g := g) hK hcK hP hcP hO lK.length
  have back : 3 ≤ rd lK a → ∀ (b : Bool), (out ++ backR lK lP (inS lK lP lK.length) (belowL lK lP (wasS lQ (rd lP a)) (rd lP a)) (rd lP a) b).length < 17592186044416 → ∀ (w : World), WW w0 w g (.slice AK lK.length cK) (.slice AP lP.length cP) (.slice AQ lQ.length cQ) v out →
      Calls Try.prog 59 #[.pointer (some ⟨g, 0, none⟩), .int .i64 (rd lP a), .bool b] w (Put w0 w g (.slice AK lK.length cK) (.slice AP lP.length cP) (.slice AQ lQ.length cQ) v (out ++ backR lK lP (inS lK lP lK.length) (belowL lK lP (wasS lQ (rd lP a)) (rd lP a)) (rd lP a) b)) := by
    intro h3 b hl w hW
    have hup : 0 ≤ rd lP a := by
      by_cases e : rd lP a = -1
      · rw [if_pos e] at b3
        have := solidB_iff.1 b3; omega
      · omega
    refine back_calls hK hcK hP hcP hQ hcQ hn h24 (rd lP a) b _ (fun x hx => ?_) ?_ (below_f hn hT (by omega) _ _ (by omega) (by omega)).rounds _ w v out hW hl ?_
    · obtain ⟨j, rfl, hj, _⟩ := mem_below.1 hx
      omega
    · exact Nat.le_trans (below_len _ _ _ _) h24
    · intro x x0 x1 x2 w v hW hl
      have := (rd_range hO x0 x1).1
      exact hS x x0 x1 (by omega) (solidB_iff.2 (by omega)) w v out hW hl
  unfold inA at hl ⊢
  by_cases c3 : rd lK a = 3
  · rw [if_pos c3] at hl ⊢
    exact in_hist hK hcK hP hcP hn a h0 h1 false (by rw [c3]; rfl) (by rw [c3]; rfl) _ w v out hW (back (by omega) false hl)
  · rw [if_neg c3] at hl ⊢
    by_cases c4 : rd lK a = 4
    · rw [if_pos c4] at hl ⊢
      exact in_hist hK hcK hP hcP hn a h0 h1 true (by rw [c4]; rfl) (by rw [c4]; rfl) _ w v out hW (back (by omega) true hl)
    · rw [if_neg c4] at hl ⊢
      exact hS a h0 h1 (by omega) (solidB_iff.2 (by omega)) w v out hW hl
end Go.Proofs.Ytnomeokicfpidaa.EW
/-
  The walk that enters states, by hand: the way down to a state. Conditions: a shape that is valid.
-/
namespace Go.Proofs.Ytnomeokicfpidaa.EW
open Go.RowKit Go.Proofs.YtnomeokicfpidaaW.PrintWords Go.Proofs.YtnomeokicfpidaaW.PrintLast Go.Proofs.YtnomeokicfpidaaW.PrintMore Go.Proofs.Ytnomeokicfpidaa.Q Go.Proofs.Ytnomeokicfpidaa.M
attribute [local go_sem] max2_int min2_int max_two min_two max_three min_three max_four min_four
set_option linter.unusedVariables false
set_option linter.unusedSimpArgs false
-- uses: shape_Kids.calls shape_Under.calls

set_option maxHeartbeats 8000000 in
set_option maxRecDepth 100000 in
theorem path_end {w0 : World} {sK sP sQ : Value} {g : Nat} (a : Int) (r : List Int) (w : World) (v : Value) (out : List Int)
    (hW : WW w0 w g sK sP sQ v out)
    (IH : Calls Try.prog 52 #[.pointer (some ⟨g, 0, none⟩), .int .i64 a] w (Put w0 w g sK sP sQ v r)) :
    Calls Try.prog 53 #[.pointer (some ⟨g, 0, none⟩), .int .i64 a, .int .i64 a] w (Put w0 w g sK sP sQ v r) := by
  have t1 : (a == a) = true := beq_self_eq_true a
  have HH := Aside0.mk IH
  clear IH hW
  go_enter Try.func53, Try.ntmps53
  go_wp2_with (go_at_call 52; (with_reducible refine HH.out.mono ?_); rintro e w4 ⟨rfl, v', hW4, hF4⟩)
  refine bodyPost_ret (v := .tuple #[]) (by simp [results, Try.results53, go_sem]) rfl ?_
  exact ⟨rfl, v', hW4, hF4⟩

set_option maxHeartbeats 16000000 in
set_option maxRecDepth 100000 in
theorem path_step {w0 : World} {AK AP AQ : Option Addr} {cK cP cQ : Nat} {lK lP lQ : List Int} {g : Nat}
    (hK : Kd.C (Kd.int .i64) w0 AK lK.length lK) (hcK : lK.length ≤ cK) (hP : Kd.C (Kd.int .i64) w0 AP lP.length lP) (hcP : lP.length ≤ cP) (hO : Ok lK lP)
    (z : Int) (z0 : 0 ≤ z) (z1 : z < lK.length) (a : Int) (h0 : 0 ≤ a) (h1 : a < lK.length) (hne : a ≠ z) (w : World) (v : Value) (out : List Int)
    (hW : WW w0 w g (.slice AK lK.length cK) (.slice AP lP.length cP) (.slice AQ lQ.length cQ) v out) (F G F1 G1 : Int → List Int)
    (hF1 : F1 = fun k => if unB lP z k = true then F k else []) (hG1 : G1 = fun k => if rd lK a = 2 ∧ unB lP z k = false then G k else [])
    (hl : (out ++ [a] ++ ((kids lP a).flatMap F1 ++ (kids lP a).flatMap G1)).length < 17592186044416)
    (IH : ∀ x ∈ kids lP a, ∀ (w : World) (v : Value) (out : List Int), WW w0 w g (.slice AK lK.length cK) (.slice AP lP.length cP) (.slice AQ lQ.length cQ) v out → (out ++ F x).length < 17592186044416 → Calls Try.prog 53 #[.pointer (some ⟨g, 0, none⟩), .int .i64 x, .int .i64 z] w (Put w0 w g (.slice AK lK.length cK) (.slice AP lP.length cP) (.slice AQ lQ.length cQ) v (out ++ F x)))
    (JH : ∀ x ∈ kids lP a, ∀ (w : World) (v : Value) (out : List Int), WW w0 w g (.slice AK lK.length cK) (.slice AP lP.length cP) (.slice AQ lQ.length cQ) v out → (out ++ G x).length < 17592186044416 → Calls Try.prog 52 #[.pointer (some ⟨g, 0, none⟩), .int .i64 x] w (Put w0 w g (.slice AK lK.length cK) (.slice AP lP.length cP) (.slice AQ lQ.length cQ) v (out ++ G x))) :
    Calls Try.prog 53 #[.pointer (some ⟨g, 0, none⟩), .int .i64 a, .int .i64 z] w (Put w0 w g (.slice AK lK.length cK) (.slice AP lP.length cP) (.slice AQ lQ.length cQ) v (out ++ [a] ++ ((kids lP a).flatMap F1 ++ (kids lP a).flatMap G1))) := by
  have hn := hO.1
  have h24 := hO.2.2.2.2
  have hkin := kids_in hn a
  obtain ⟨k, hk⟩ := (Kids_f lK lP a (by omega)).rounds
  have hu24 := Try.underlying24
  have hu70 := Try.underlying70
  have hc0 : w.cell? ⟨g, 0, none⟩ = some (.slice AK lK.length cK) := (blk_cell hW.blk 0).trans rfl
  have hc1 : w.cell? ⟨g, 1, none⟩ = some (.slice AP lP.length cP) := (blk_cell hW.blk 1).trans rfl
  have hc3 : w.cell? ⟨g, 3, none⟩ = some v := (blk_cell hW.blk 3).trans rfl
  have t1 : (a == z) = false := beq_eq_false_iff_ne.mpr hne
  have HZ := Aside0.mk (And.intro z0 z1)
  have HA := Aside0.mk (And.intro h0 h1)
  clear hne z0 z1 h0 h1
  have HF1 := Aside0.mk hF1
  have HG1 := Aside0.mk hG1
  clear hF1 hG1
  have HO := Aside0.mk hO
  clear hO
  have HKI := Aside0.mk hkin
  clear hkin
  have HW := Aside0.mk hW
  clear hW
  have HK := Aside0.mk hk
  clear hk
  have HN := Aside0.mk hn
  clear hn
  obtain ⟨y, hy⟩ : ∃ y : List Int, y = out ++ [a] := ⟨_, rfl⟩
  have hlen : y.length = out.length + 1 := by rw [hy, List.length_append, List.length_singleton]
  rw [← hy] at hl ⊢
  have hly : y.length + (((kids lP a).flatMap F1).length + ((kids lP a).flatMap G1).length) < 17592186044416 := by rw [List.length_append, List.length_append] at hl; exact hl
  have HL := Aside0.mk (show out.length + 1 < 17592186044416 by omega)
  have HLY := Aside0.mk hly
  clear hl hly hlen
  have HY := Aside0.mk hy
  clear hy
  have HH := Aside0.mk IH
  have HJ := Aside0.mk JH
  clear IH JH
  have hkl := kids_len lP a
  obtain ⟨L, hL⟩ : ∃ L, L = kids lP a := ⟨_, rfl⟩
  rw [← hL] at hkl
  have HLL := Aside0.mk hL
  have hl24 : L.length ≤ 24 := by have := HN.out; omega
  clear hL hkl
  go_enter Try.func53, Try.ntmps53
  go_wp2_with (first | ((with_reducible refine gate_builtin (b := .append) (xs := #[.tmp 21, .tmp 23]) rfl ?_); at_builtin; refine Kd.R_append (Kd.int .i64) (w0 := w0) w0.heap.size rfl (.tmp 21) (.tmp 23) 22 3 (.int .i64 0) 8 rfl Try.underlying22 infoI rfl (by decide) (by omega) v out a [.int .i64 a] (fun _ => True) (fun _ => False) rfl rfl ?aP (fun _ hk => hk.elim) ?aF ?aO ?aB ?aS ?aL ?_; (case aP => exact rfl); (case aB => exact HW.out.below); (case aF => exact (fun _ _ => trivial)); (case aO => exact HW.out.own); (case aS => exact HW.out.below.size); (case aL => have := HL.out; omega); intro v1 w1 ho hb hg hat; rw [← HY.out] at ho; obtain ⟨Av, cv, ev⟩ := Kd.R_slice ho; subst ev; obtain ⟨hb1, hW2, hF⟩ := HW.out.push ho hb hg hat; clear ho hb hg hat; have hc3' : w1.cell? ⟨g, 3, none⟩ = some v := (blk_cell hb1 3).trans rfl; have hf3' := blk_frozen hb1 3; clear hb1; have hd0 : (w1.setCell ⟨g, 3, none⟩ (.slice Av y.length cv)).cell? ⟨g, 0, none⟩ = some (.slice AK lK.length cK) := (blk_cell hW2.blk 0).trans rfl; have hd1 : (w1.setCell ⟨g, 3, none⟩ (.slice Av y.length cv)).cell? ⟨g, 1, none⟩ = some (.slice AP lP.length cP) := (blk_cell hW2.blk 1).trans rfl; have HW2 := Aside0.mk hW2; clear hW2; have HF := Aside0.mk hF; clear hF) | (go_at_call 25; (with_reducible refine (shape_Kids.calls k _ _ lK _ _ lP a _ _ ?s1 ?s2 ?s3 ?s4 HK.out).mono ?_); (case s1 => exact Kd.C_below hK HW2.out.below); (case s2 => exact hcK); (case s3 => exact Kd.C_below hP HW2.out.below); (case s4 => exact hcP); rintro e w3 ⟨vk, rfl, hok, hb3⟩; rw [← HLL.out] at hok; obtain ⟨Ak, ck, ek⟩ := Kd.R_slice hok; subst ek; have HOK := Aside0.mk hok; clear hok; have HB3 := Aside0.mk hb3; clear hb3))
  go_loopg [8, 35] L.length (fun kq v8 v35 w' => ∃ (xi : Int) (v' : Value), v35 = .int .i64 xi ∧ Aside0 (0 ≤ xi ∧ xi + kq = L.length) ∧ Aside0 (WW w0 w' g (.slice AK lK.length cK) (.slice AP lP.length cP) (.slice AQ lQ.length cQ) v' (y ++ (L.take xi.toNat).flatMap F1)) ∧ Aside0 (Fr w3 w' g (.slice Av y.length cv) v'))
  case atStart => exact ⟨0, _, rfl, ⟨by omega, by omega⟩, ⟨by simpa using HW2.out.step HB3.out⟩, ⟨Fr.refl _ _ _⟩⟩
  case round =>
    obtain ⟨xi, v', rfl, HX, HW3, HF3⟩ := hrel
    cases gk with
    | zero =>
      have c1 : decide (xi < (L.length : Int)) = false := decide_eq_false (by have := HX.out; omega)
      have hdone : y ++ (L.take xi.toNat).flatMap F1 = y ++ L.flatMap F1 := by rw [List.take_of_length_le (by have := HX.out; omega)]
      have hW4 := HW3.out
      rw [hdone] at hW4
      have HW4 := Aside0.mk hW4
      clear hdone hW4 HW3
      have HFA := Aside0.mk HF3.out
      clear HF3 HX
      go_wp2
      go_loopg [10, 53] L.length (fun kq v10 v53 w' => ∃ (xi : Int) (v' : Value), v53 = .int .i64 xi ∧ Aside0 (0 ≤ xi ∧ xi + kq = L.length) ∧ Aside0 (WW w0 w' g (.slice AK lK.length cK) (.slice AP lP.length cP) (.slice AQ lQ.length cQ) v' (y ++ L.flatMap F1 ++ (L.take xi.toNat).flatMap G1)) ∧ Aside0 (Fr w3 w' g (.slice Av y.length cv) v'))
      case atStart => exact ⟨0, _, rfl, ⟨by omega, by omega⟩, ⟨by simpa using HW4.out⟩, HFA⟩
      case round =>
        clear c1 HFA HW4
        obtain ⟨xi, v', rfl, HX, HW3, HF3⟩ := hrel
        cases gk with
        | zero =>
          have c1 : decide (xi < (L.length : Int)) = false := decide_eq_false (by have := HX.out; omega)
          have hdone : y ++ L.flatMap F1 ++ (L.take xi.toNat).flatMap G1 = y ++ (L.flatMap F1 ++ L.flatMap G1) := by rw [List.take_of_length_le (by have := HX.out; omega), List.append_assoc]
          have HD := Aside0.mk hdone
          clear hdone
          go_wp2
          go_end0
          rw [← HLL.out, ← HD.out]
          exact ⟨rfl, v', HW3.out, (HF.out.trans (Fr.of_below HB3.out g _)).trans HF3.out⟩
        | succ k1 =>
          have c0 := eq_true HX.out.1
          have hlt : xi < (L.length : Int) := by have := HX.out; omega
          have c1 := eq_true hlt
          have c2 : decide (xi < (L.length : Int)) = true := decide_eq_true hlt
          have hr := row_after HOK.out HW2.out.lt (Kd.R_lt HW2.out.own) HF3.out
          obtain ⟨adk, ek, hxk⟩ := Kd.at_int (Kd.R_reads' hr).2.2 xi HX.out.1 (by omega)
          subst ek
          clear hr hlt
          have hmem : rd L xi ∈ kids lP a := by
            rw [← HLL.out]
            have := HX.out
            unfold rd
            rw [List.getD_eq_getElem?_getD, List.getElem?_eq_getElem (by omega)]; exact List.getElem_mem _
          have hft : (L.take (xi + 1).toNat).flatMap G1 = (L.take xi.toNat).flatMap G1 ++ G1 (rd L xi) := by
            have := HX.out
            rw [show (xi + 1).toNat = xi.toNat + 1 by omega, flat_take (by omega), show ((xi.toNat : Nat) : Int) = xi by omega]
          have hbd : ((y ++ L.flatMap F1) ++ (L.take xi.toNat).flatMap G1 ++ G1 (rd L xi)).length < 17592186044416 := by
            rw [List.append_assoc, ← hft, List.length_append]
            have := flat_le (F := G1) (L := L) (xi + 1).toNat
            have := HLY.out
            rw [← HLL.out] at this
            have hyl := @List.length_append _ y (L.flatMap F1)
            omega
          obtain ⟨x, hx⟩ : ∃ x, rd L xi = x := ⟨_, rfl⟩
          rw [hx] at hxk hmem hft hbd
          have hd0' : _ = some (Value.slice AK lK.length cK) := (blk_cell HW3.out.blk 0).trans rfl
          have hd1' : _ = some (Value.slice AP lP.length cP) := (blk_cell HW3.out.blk 1).trans rfl
          have hxr := HKI.out x hmem
          obtain ⟨ku, hku⟩ := (Under_f HN.out HO.out.tree HZ.out.1 HZ.out.2 (show -1 ≤ x by omega) hxr.2).rounds
          have HM := Aside0.mk hmem
          have HXX := Aside0.mk hx
          clear hmem hx hxr
          have hw : wrap64 (xi + 1) = xi + 1 := by have := HX.out; exact w64 (by omega) (by omega)
          have HWR := Aside0.mk hw
          clear hw
          obtain ⟨adK, eK, hxK⟩ := Kd.at_int (Kd.C_below hK HW3.out.below) a HA.out.1 (by have := HA.out; omega)
          subst eK
          have q0 := eq_true HA.out.1
          have q1 := eq_true HA.out.2
          by_cases u2 : rd lK a = 2
          · have t2 : (rd lK a == 2) = true := beq_iff_eq.mpr u2
            by_cases u : unB lP z x = true
            · have e1 : G1 x = [] := by rw [HG1.out]; exact if_neg (by rw [u]; simp)
              rw [e1, List.append_nil] at hft
              rw [u] at hku
              have HKU := Aside0.mk hku
              have HFT := Aside0.mk hft
              clear u u2 e1 hku hft hbd
              go_wp2_with (first | (go_at_call 27; (with_reducible refine (shape_Under.calls ku _ _ lK _ _ lP z x _ _ ?s1 ?s2 ?s3 ?s4 HKU.out).mono ?_); (case s1 => exact Kd.C_below hK HW3.out.below); (case s2 => exact hcK); (case s3 => exact Kd.C_below hP HW3.out.below); (case s4 => exact hcP); rintro e w5 ⟨rfl, hb5⟩; have HB5 := Aside0.mk hb5; clear hb5))
              go_roundg k1
              case measure => have := HX.out; omega
              case rel => exact ⟨wrap64 (xi + 1), v', (by first | rfl | (simp; done) | (simp [*]; done)), ⟨by rw [HWR.out]; have := HX.out; omega⟩, ⟨by rw [HWR.out, HFT.out]; exact HW3.out.step HB5.out⟩, ⟨HF3.out.trans (Fr.of_below HB5.out g _)⟩⟩
            · have u := eq_false_of_ne_true u
              have e1 : G1 x = G x := by rw [HG1.out]; exact if_pos ⟨u2, u⟩
              rw [e1] at hft hbd
              rw [u] at hku
              have HKU := Aside0.mk hku
              have HFT := Aside0.mk hft
              have HBD := Aside0.mk hbd
              clear u u2 e1 hku hft hbd
              go_wp2_with (first | (go_at_call 27; (with_reducible refine (shape_Under.calls ku _ _ lK _ _ lP z x _ _ ?s1 ?s2 ?s3 ?s4 HKU.out).mono ?_); (case s1 => exact Kd.C_below hK HW3.out.below); (case s2 => exact hcK); (case s3 => exact Kd.C_below hP HW3.out.below); (case s4 => exact hcP); rintro e w5 ⟨rfl, hb5⟩; have HB5 := Aside0.mk hb5; clear hb5) | (go_at_call 52; (with_reducible refine (HJ.out x HM.out w5 _ _ (HW3.out.step HB5.out) HBD.out).mono ?_); rintro e w4 ⟨rfl, v4, hW4, hF4⟩; have HW4 := Aside0.mk hW4; have HF4 := Aside0.mk hF4; clear hW4 hF4))
              go_roundg k1
              case measure => have := HX.out; omega
              case rel => exact ⟨wrap64 (xi + 1), v4, (by first | rfl | (simp; done) | (simp [*]; done)), ⟨by rw [HWR.out]; have := HX.out; omega⟩, ⟨by rw [HWR.out, HFT.out, ← List.append_assoc]; exact HW4.out⟩, ⟨(HF3.out.trans (Fr.of_below HB5.out g _)).trans HF4.out⟩⟩
          · have t2 : (rd lK a == 2) = false := beq_eq_false_iff_ne.mpr u2
            have e1 : G1 x = [] := by rw [HG1.out]; exact if_neg (fun h => u2 h.1)
            rw [e1, List.append_nil] at hft
            have HFT := Aside0.mk hft
            clear u2 e1 hku hft hbd
            go_wp2
            go_roundg k1
            case measure => have := HX.out; omega
            case rel => exact ⟨wrap64 (xi + 1), v', (by first | rfl | (simp; done) | (simp [*]; done)), ⟨by rw [HWR.out]; have := HX.out; omega⟩, ⟨by rw [HWR.out, HFT.out]; exact HW3.out⟩, ⟨HF3.out⟩⟩
    | succ k1 =>
      have c0 := eq_true HX.out.1
      have hlt : xi < (L.length : Int) := by have := HX.out; omega
      have c1 := eq_true hlt
      have c2 : decide (xi < (L.length : Int)) = true := decide_eq_true hlt
      have hr := row_after HOK.out HW2.out.lt (Kd.R_lt HW2.out.own) HF3.out
      obtain ⟨adk, ek, hxk⟩ := Kd.at_int (Kd.R_reads' hr).2.2 xi HX.out.1 (by omega)
      subst ek
      clear hr hlt
      have hmem : rd L xi ∈ kids lP a := by
        rw [← HLL.out]
        have := HX.out
        unfold rd
        rw [List.getD_eq_getElem?_getD, List.getElem?_eq_getElem (by omega)]; exact List.getElem_mem _
      have hft : (L.take (xi + 1).toNat).flatMap F1 = (L.take xi.toNat).flatMap F1 ++ F1 (rd L xi) := by
        have := HX.out
        rw [show (xi + 1).toNat = xi.toNat + 1 by omega, flat_take (by omega), show ((xi.toNat : Nat) : Int) = xi by omega]
      have hbd : (y ++ (L.take xi.toNat).flatMap F1 ++ F1 (rd L xi)).length < 17592186044416 := by
        rw [List.append_assoc, ← hft, List.length_append]
        have := flat_le (F := F1) (L := L) (xi + 1).toNat
        have := HLY.out
        rw [← HLL.out] at this
        have hyl := @List.length_append _ y (L.flatMap F1)
        omega
      obtain ⟨x, hx⟩ : ∃ x, rd L xi = x := ⟨_, rfl⟩
      rw [hx] at hxk hmem hft hbd
      have hd0' : _ = some (Value.slice AK lK.length cK) := (blk_cell HW3.out.blk 0).trans rfl
      have hd1' : _ = some (Value.slice AP lP.length cP) := (blk_cell HW3.out.blk 1).trans rfl
      have hxr := HKI.out x hmem
      obtain ⟨ku, hku⟩ := (Under_f HN.out HO.out.tree HZ.out.1 HZ.out.2 (show -1 ≤ x by omega) hxr.2).rounds
      have HM := Aside0.mk hmem
      have HXX := Aside0.mk hx
      clear hmem hx hxr
      have hw : wrap64 (xi + 1) = xi + 1 := by have := HX.out; exact w64 (by omega) (by omega)
      have HWR := Aside0.mk hw
      clear hw
      by_cases u : unB lP z x = true
      · have e1 : F1 x = F x := by rw [HF1.out]; exact if_pos u
        rw [e1] at hft hbd
        rw [u] at hku
        have HKU := Aside0.mk hku
        have HFT := Aside0.mk hft
        have HBD := Aside0.mk hbd
        clear u e1 hku hft hbd
        go_wp2_with (first | (go_at_call 27; (with_reducible refine (shape_Under.calls ku _ _ lK _ _ lP z x _ _ ?s1 ?s2 ?s3 ?s4 HKU.out).mono ?_); (case s1 => exact Kd.C_below hK HW3.out.below); (case s2 => exact hcK); (case s3 => exact Kd.C_below hP HW3.out.below); (case s4 => exact hcP); rintro e w5 ⟨rfl, hb5⟩; have HB5 := Aside0.mk hb5; clear hb5) | (go_at_call 53; (with_reducible refine (HH.out x HM.out w5 _ _ (HW3.out.step HB5.out) HBD.out).mono ?_); rintro e w4 ⟨rfl, v4, hW4, hF4⟩; have HW4 := Aside0.mk hW4; have HF4 := Aside0.mk hF4; clear hW4 hF4))
        go_roundg k1
        case measure => have := HX.out; omega
        case rel => exact ⟨wrap64 (xi + 1), v4, (by first | rfl | (simp; done) | (simp [*]; done)), ⟨by rw [HWR.out]; have := HX.out; omega⟩, ⟨by rw [HWR.out, HFT.out, ← List.append_assoc]; exact HW4.out⟩, ⟨(HF3.out.trans (Fr.of_below HB5.out g _)).trans HF4.out⟩⟩
      · have u := eq_false_of_ne_true u
        have e1 : F1 x = [] := by rw [HF1.out]; exact if_neg (by rw [u]; simp)
        rw [e1, List.append_nil] at hft
        rw [u] at hku
        have HKU := Aside0.mk hku
        have HFT := Aside0.mk hft
        clear u e1 hku hft hbd
        go_wp2_with (first | (go_at_call 27; (with_reducible refine (shape_Under.calls ku _ _ lK _ _ lP z x _ _ ?s1 ?s2 ?s3 ?s4 HKU.out).mono ?_); (case s1 => exact Kd.C_below hK HW3.out.below); (case s2 => exact hcK); (case s3 => exact Kd.C_below hP HW3.out.below); (case s4 => exact hcP); rintro e w5 ⟨rfl, hb5⟩; have HB5 := Aside0.mk hb5; clear hb5))
        go_roundg k1
        case measure => have := HX.out; omega
        case rel => exact ⟨wrap64 (xi + 1), v', (by first | rfl | (simp; done) | (simp [*]; done)), ⟨by rw [HWR.out]; have := HX.out; omega⟩, ⟨by rw [HWR.out, HFT.out]; exact HW3.out.step HB5.out⟩, ⟨HF3.out.trans (Fr.of_below HB5.out g _)⟩⟩
end Go.Proofs.Ytnomeokicfpidaa.EW
/-
  The walk that enters states, by hand: Enter and Start. Conditions: a shape that is valid.
-/
namespace Go.Proofs.Ytnomeokicfpidaa.EW
open Go.RowKit Go.Proofs.YtnomeokicfpidaaW.PrintWords Go.Proofs.YtnomeokicfpidaaW.PrintLast Go.Proofs.YtnomeokicfpidaaW.PrintMore Go.Proofs.Ytnomeokicfpidaa.Q Go.Proofs.Ytnomeokicfpidaa.M
attribute [local go_sem] max2_int min2_int max_two min_two max_three min_three max_four min_four
set_option linter.unusedVariables false
set_option linter.unusedSimpArgs false
-- uses: shape_Kids.calls shape_Under.calls shape_Initial.calls

theorem path_calls {w0 : World} {AK AP AQ : Option Addr} {cK cP cQ : Nat} {lK lP lQ : List Int} {g : Nat}
    (hK : Kd.C (Kd.int .i64) w0 AK lK.length lK) (hcK : lK.length ≤ cK) (hP : Kd.C (Kd.int .i64) w0 AP lP.length lP) (hcP : lP.length ≤ cP) (hQ : Kd.C (Kd.int .u32) w0 AQ lQ.length lQ) (hcQ : lQ.length ≤ cQ) (hO : Ok lK lP)
    (z : Int) (z0 : 0 ≤ z) (z1 : z < lK.length) : ∀ (f : Nat) (a : Int), 0 ≤ a → a < lK.length → (lK.length : Int) - a ≤ f → ∀ (w : World) (v : Value) (out : List Int),
    WW w0 w g (.slice AK lK.length cK) (.slice AP lP.length cP) (.slice AQ lQ.length cQ) v out → (out ++ pathR lK lP lQ z f a).length < 17592186044416 →
    Calls Try.prog 53 #[.pointer (some ⟨g, 0, none⟩), .int .i64 a, .int .i64 z] w (Put w0 w g (.slice AK lK.length cK) (.slice AP lP.length cP) (.slice AQ lQ.length cQ) v (out ++ pathR lK lP lQ z f a)) := by
  intro f
  induction f with
  | zero => intro a h0 h1 h2; omega
  | succ f ih =>
    intro a h0 h1 h2 w v out hW hl
    rw [pathR] at hl ⊢
    by_cases e : a = z
    · subst e
      rw [if_pos rfl] at hl ⊢
      exact path_end a _ w v out hW (in_any hK hcK hP hcP hQ hcQ hO a h0 h1 w v out hW hl)
    · rw [if_neg e] at hl ⊢
      have e2 : ∀ r : List Int, out ++ a :: r = out ++ [a] ++ r := fun r => by simp
      rw [e2] at hl ⊢
      refine path_step hK hcK hP hcP hO z z0 z1 a h0 h1 e w v out hW (pathR lK lP lQ z f) (inA lK lP lQ) _ _ rfl rfl hl (fun x hx w v out hW hl => ?_) (fun x hx w v out hW hl => ?_)
      · obtain ⟨x0, x1, x2, _⟩ := hO.kid hx
        exact ih x x0 x1 (by omega) w v out hW hl
      · obtain ⟨x0, x1, x2, _⟩ := hO.kid hx
        exact in_any hK hcK hP hcP hQ hcQ hO x x0 x1 w v out hW hl

/-- What is entered, by a transition into z. -/
def enterL (K P Q : List Int) (d z : Int) : List Int := (kids P d).flatMap (fun k => if unB P z k = true then pathR K P Q z K.length k else [])
/-- What is entered at first. -/
def startL (K P : List Int) : List Int := if 0 ≤ initial K P (-1) then inS K P K.length (initial K P (-1)) else []

set_option maxHeartbeats 16000000 in
set_option maxRecDepth 100000 in
theorem enter_calls {w : World} {AK AP AQ : Option Addr} {cK cP cQ : Nat} {lK lP lQ : List Int}
    (hK : Kd.C (Kd.int .i64) w AK lK.length lK) (hcK : lK.length ≤ cK) (hP : Kd.C (Kd.int .i64) w AP lP.length lP) (hcP : lP.length ≤ cP) (hQ : Kd.C (Kd.int .u32) w AQ lQ.length lQ) (hcQ : lQ.length ≤ cQ) (hO : Ok lK lP)
    (d z : Int) (z0 : 0 ≤ z) (z1 : z < lK.length) (hl : (enterL lK lP lQ d z).length < 17592186044416) :
    Calls Try.prog 33 #[.agg #[.slice AK lK.length cK, .slice AP lP.length cP], .int .i64 d, .int .i64 z, .slice AQ lQ.length cQ] w fun e w' => ∃ v0_ : Value, e = .returned (v0_) ∧ Kd.R (Kd.int .i64) 3 w' w.heap.size (fun _ => True) v0_ (enterL lK lP lQ d z) ∧ Below w.heap.size w w' := by
  have hn := hO.1
  have h24 := hO.2.2.2.2
  have HKI := Aside0.mk (fun x (hx : x ∈ kids lP d) => hO.kid hx)
  obtain ⟨k, hk⟩ := (Kids_f lK lP d (by omega)).rounds
  have hu24 := Try.underlying24
  have hu70 := Try.underlying70
  obtain ⟨F1, hF1⟩ : ∃ F1 : Int → List Int, F1 = fun k => if unB lP z k = true then pathR lK lP lQ z lK.length k else [] := ⟨_, rfl⟩
  have hkl := kids_len lP d
  obtain ⟨L, hL⟩ : ∃ L, L = kids lP d := ⟨_, rfl⟩
  have hEL : enterL lK lP lQ d z = L.flatMap F1 := by rw [hL, hF1]; rfl
  rw [hEL] at hl ⊢
  rw [← hL] at hkl
  have hl24 : L.length ≤ 24 := by omega
  have HZ := Aside0.mk (And.intro z0 z1)
  have HF1 := Aside0.mk hF1
  have HO := Aside0.mk hO
  have HK := Aside0.mk hk
  have HN := Aside0.mk hn
  have HL := Aside0.mk hl
  have HLL := Aside0.mk hL
  have HR := Aside0.mk (And.intro hK (And.intro hP hQ))
  have HPC := Aside0.mk (path_calls (g := w.heap.size + 1) hK hcK hP hcP hQ hcQ hO z z0 z1 lK.length)
  obtain ⟨W1, hW1⟩ : ∃ W1 : World, W1 = (w.alloc (.cells #[.slice AK lK.length cK, .slice AP lP.length cP] 24)).alloc (.cells #[.slice AK lK.length cK, .slice AP lP.length cP, .slice AQ lQ.length cQ, .slice none 0 0] 70) := ⟨_, rfl⟩
  have hww : WW w W1 (w.heap.size + 1) (.slice AK lK.length cK) (.slice AP lP.length cP) (.slice AQ lQ.length cQ) (.slice none 0 0) [] := by
    rw [hW1]
    exact ⟨((Below.refl w.heap.size w).alloc (Nat.le_refl _) _).alloc (by simp) _, by omega, by simpa using heap_alloc_new (w.alloc _) _, Kd.R_nil _ _ _ _ _⟩
  have hb1 : W1.heap[w.heap.size]? = some (.cells #[.slice AK lK.length cK, .slice AP lP.length cP] 24 (0, 0)) := by
    rw [hW1]
    exact ((Below.refl _ _).alloc (Nat.le_refl _) _ : Below (w.alloc (.cells #[.slice AK lK.length cK, .slice AP lP.length cP] 24)).heap.size _ _).block _ (by simp) |>.trans (by simpa using heap_alloc_new w _)
  have hs1 : w.heap.size + 1 < W1.heap.size := by rw [hW1]; simp
  have HWW := Aside0.mk hww
  have HB1 := Aside0.mk hb1
  have HS1 := Aside0.mk hs1
  have HW1 := Aside0.mk hW1
  clear hK hP hQ z0 z1 hF1 hO hk hn hl hL hkl hEL hW1 hww hb1 hs1
  go_enter Try.func33, Try.ntmps33
  go_wp2_with (go_at_call 25; rw [← HW1.out]; (with_reducible refine (shape_Kids.calls k _ _ lK _ _ lP d _ _ ?s1 ?s2 ?s3 ?s4 HK.out).mono ?_); (case s1 => exact Kd.C_below HR.out.1 HWW.out.below); (case s2 => exact hcK); (case s3 => exact Kd.C_below HR.out.2.1 HWW.out.below); (case s4 => exact hcP); rintro e w3 ⟨vk, rfl, hok, hb3⟩; rw [← HLL.out] at hok; obtain ⟨Ak, ck, ek⟩ := Kd.R_slice hok; subst ek; have HOK := Aside0.mk hok; clear hok; have HB3 := Aside0.mk hb3; clear hb3)
  go_loopg [11, 20] L.length (fun kq v11 v20 w' => ∃ (xi : Int) (v' : Value), v20 = .int .i64 xi ∧ Aside0 (0 ≤ xi ∧ xi + kq = L.length) ∧ Aside0 (WW w w' (w.heap.size + 1) (.slice AK lK.length cK) (.slice AP lP.length cP) (.slice AQ lQ.length cQ) v' ((L.take xi.toNat).flatMap F1)) ∧ Aside0 (Fr w3 w' (w.heap.size + 1) (.slice none 0 0) v'))
  case atStart => exact ⟨0, _, rfl, ⟨by omega, by omega⟩, ⟨by simpa using HWW.out.step HB3.out⟩, ⟨Fr.refl _ _ _⟩⟩
  case round =>
    obtain ⟨xi, v', rfl, HX, HW3, HF3⟩ := hrel
    cases gk with
    | zero =>
      have c1 : decide (xi < (L.length : Int)) = false := decide_eq_false (by have := HX.out; omega)
      have hdone : (L.take xi.toNat).flatMap F1 = L.flatMap F1 := by rw [List.take_of_length_le (by have := HX.out; omega)]
      have hW := HW3.out
      rw [hdone] at hW
      obtain ⟨y, hy⟩ : ∃ y, y = L.flatMap F1 := ⟨_, rfl⟩
      rw [← hy] at hW
      have HY := Aside0.mk hy
      clear hdone hy HW3
      have hd3 : _ = some v' := (blk_cell hW.blk 3).trans rfl
      obtain ⟨Av, cv, ev⟩ := Kd.R_slice hW.own
      subst ev
      have HW := Aside0.mk hW
      clear hW
      go_wp2
      go_ret
      rw [← HY.out]
      exact ⟨_, rfl, HW.out.own, HW.out.below⟩
    | succ k1 =>
      have c0 := eq_true HX.out.1
      have hlt : xi < (L.length : Int) := by have := HX.out; omega
      have c1 := eq_true hlt
      have c2 : decide (xi < (L.length : Int)) = true := decide_eq_true hlt
      have hr := row_after HOK.out HS1.out (fun k hk => by simp [Value.ownBlock] at hk) HF3.out
      obtain ⟨adk, ek, hxk⟩ := Kd.at_int (Kd.R_reads' hr).2.2 xi HX.out.1 (by omega)
      subst ek
      clear hr hlt
      have hmem : rd L xi ∈ kids lP d := by
        rw [← HLL.out]
        have := HX.out
        unfold rd
        rw [List.getD_eq_getElem?_getD, List.getElem?_eq_getElem (by omega)]; exact List.getElem_mem _
      have hft : (L.take (xi + 1).toNat).flatMap F1 = (L.take xi.toNat).flatMap F1 ++ F1 (rd L xi) := by
        have := HX.out
        rw [show (xi + 1).toNat = xi.toNat + 1 by omega, flat_take (by omega), show ((xi.toNat : Nat) : Int) = xi by omega]
      have hbd : ((L.take xi.toNat).flatMap F1 ++ F1 (rd L xi)).length < 17592186044416 := by
        rw [← hft]
        have := flat_le (F := F1) (L := L) (xi + 1).toNat
        have := HL.out
        omega
      obtain ⟨x, hx⟩ : ∃ x, rd L xi = x := ⟨_, rfl⟩
      rw [hx] at hxk hmem hft hbd
      have hbs : _ = some (Obj.cells #[.slice AK lK.length cK, .slice AP lP.length cP] 24 (0, 0)) := (HF3.out.block w.heap.size (by have := HS1.out; have := HB3.out.size; omega) (by omega) (by simp [Value.ownBlock])).trans ((HB3.out.block _ (by have := HS1.out; omega)).trans HB1.out)
      have hd0' : _ = some (Value.slice AK lK.length cK) := (blk_cell hbs 0).trans rfl
      have hd1' : _ = some (Value.slice AP lP.length cP) := (blk_cell hbs 1).trans rfl
      obtain ⟨x0, x1, _⟩ := HKI.out x hmem
      obtain ⟨ku, hku⟩ := (Under_f HN.out HO.out.tree HZ.out.1 HZ.out.2 (show -1 ≤ x by omega) x1).rounds
      have HM := Aside0.mk (And.intro x0 x1)
      have HXX := Aside0.mk hx
      have HBS := Aside0.mk hbs
      clear hmem hx hbs x0 x1
      have hw : wrap64 (xi + 1) = xi + 1 := by have := HX.out; exact w64 (by omega) (by omega)
      have HWR := Aside0.mk hw
      clear hw
      by_cases u : unB lP z x = true
      · have e1 : F1 x = pathR lK lP lQ z lK.length x := by rw [HF1.out]; exact if_pos u
        rw [e1] at hft hbd
        rw [u] at hku
        have HKU := Aside0.mk hku
        have HFT := Aside0.mk hft
        have HBD := Aside0.mk hbd
        clear u e1 hku hft hbd
        go_wp2_with (first | (go_at_call 27; (with_reducible refine (shape_Under.calls ku _ _ lK _ _ lP z x _ _ ?s1 ?s2 ?s3 ?s4 HKU.out).mono ?_); (case s1 => exact Kd.C_below HR.out.1 HW3.out.below); (case s2 => exact hcK); (case s3 => exact Kd.C_below HR.out.2.1 HW3.out.below); (case s4 => exact hcP); rintro e w5 ⟨rfl, hb5⟩; have HB5 := Aside0.mk hb5; clear hb5) | (go_at_call 53; (with_reducible refine (HPC.out x HM.out.1 HM.out.2 (by have := HM.out; omega) w5 _ _ (HW3.out.step HB5.out) HBD.out).mono ?_); rintro e w4 ⟨rfl, v4, hW4, hF4⟩; have HW4 := Aside0.mk hW4; have HF4 := Aside0.mk hF4; clear hW4 hF4))
        go_roundg k1
        case measure => have := HX.out; omega
        case rel => exact ⟨wrap64 (xi + 1), v4, (by first | rfl | (simp; done) | (simp [*]; done)), ⟨by rw [HWR.out]; have := HX.out; omega⟩, ⟨by rw [HWR.out, HFT.out]; exact HW4.out⟩, ⟨(HF3.out.trans (Fr.of_below HB5.out _ _)).trans HF4.out⟩⟩
      · have u := eq_false_of_ne_true u
        have e1 : F1 x = [] := by rw [HF1.out]; exact if_neg (by rw [u]; simp)
        rw [e1, List.append_nil] at hft
        rw [u] at hku
        have HKU := Aside0.mk hku
        have HFT := Aside0.mk hft
        clear u e1 hku hft hbd
        go_wp2_with (first | (go_at_call 27; (with_reducible refine (shape_Under.calls ku _ _ lK _ _ lP z x _ _ ?s1 ?s2 ?s3 ?s4 HKU.out).mono ?_); (case s1 => exact Kd.C_below HR.out.1 HW3.out.below); (case s2 => exact hcK); (case s3 => exact Kd.C_below HR.out.2.1 HW3.out.below); (case s4 => exact hcP); rintro e w5 ⟨rfl, hb5⟩; have HB5 := Aside0.mk hb5; clear hb5))
        go_roundg k1
        case measure => have := HX.out; omega
        case rel => exact ⟨wrap64 (xi + 1), v', (by first | rfl | (simp; done) | (simp [*]; done)), ⟨by rw [HWR.out]; have := HX.out; omega⟩, ⟨by rw [HWR.out, HFT.out]; exact HW3.out.step HB5.out⟩, ⟨HF3.out.trans (Fr.of_below HB5.out _ _)⟩⟩

set_option maxHeartbeats 16000000 in
set_option maxRecDepth 100000 in
theorem start_calls {w : World} {AK AP : Option Addr} {cK cP : Nat} {lK lP : List Int}
    (hK : Kd.C (Kd.int .i64) w AK lK.length lK) (hcK : lK.length ≤ cK) (hP : Kd.C (Kd.int .i64) w AP lP.length lP) (hcP : lP.length ≤ cP) (hO : Ok lK lP) (hl : (startL lK lP).length < 17592186044416) :
    Calls Try.prog 29 #[.agg #[.slice AK lK.length cK, .slice AP lP.length cP]] w fun e w' => ∃ v0_ : Value, e = .returned (v0_) ∧ Kd.R (Kd.int .i64) 3 w' w.heap.size (fun _ => True) v0_ (startL lK lP) ∧ Below w.heap.size w w' := by
  have hn := hO.1
  have h24 := hO.2.2.2.2
  have hu24 := Try.underlying24
  have hu70 := Try.underlying70
  obtain ⟨k, hk⟩ := (Initial_f lK lP (-1) hn (by omega)).rounds
  obtain ⟨W1, hW1⟩ : ∃ W1 : World, W1 = (w.alloc (.cells #[.slice AK lK.length cK, .slice AP lP.length cP] 24)).alloc (.cells #[.slice AK lK.length cK, .slice AP lP.length cP, .slice none 0 0, .slice none 0 0] 70) := ⟨_, rfl⟩
  have hww : WW w W1 (w.heap.size + 1) (.slice AK lK.length cK) (.slice AP lP.length cP) (.slice none ([] : List Int).length 0) (.slice none 0 0) [] := by
    rw [hW1]
    exact ⟨((Below.refl w.heap.size w).alloc (Nat.le_refl _) _).alloc (by simp) _, by omega, by simpa using heap_alloc_new (w.alloc _) _, Kd.R_nil _ _ _ _ _⟩
  have hS := in_solid (AQ := none) (cQ := 0) (lQ := []) (g := w.heap.size + 1) hK hcK hP hcP hO lK.length
  obtain ⟨x, hx⟩ : ∃ x, initial lK lP (-1) = x := ⟨_, rfl⟩
  have hsl : startL lK lP = if 0 ≤ x then inS lK lP lK.length x else [] := by unfold startL; rw [hx]
  have hcs := initial_cases lK lP (-1)
  rw [hx] at hcs hk
  rw [hsl] at hl ⊢
  have HWW := Aside0.mk hww
  have HW1 := Aside0.mk hW1
  have HK := Aside0.mk hk
  have HR := Aside0.mk (And.intro hK hP)
  clear hww hW1 hk hx hsl hn
  by_cases hx0 : 0 ≤ x
  · rw [if_pos hx0] at hl ⊢
    have hsol : x ∈ kids lP (-1) ∧ solidB (rd lK x) = true := by
      rcases hcs with h | h
      · omega
      · exact h
    obtain ⟨x0, x1, _⟩ := hO.kid hsol.1
    have tx : decide (0 ≤ x) = true := decide_eq_true hx0
    have hin := fun w2 (hW : WW w w2 (w.heap.size + 1) (.slice AK lK.length cK) (.slice AP lP.length cP) (.slice none ([] : List Int).length 0) (.slice none 0 0) []) => hS x x0 x1 (by omega) hsol.2 w2 (.slice none 0 0) [] hW (by simpa using hl)
    have HH := Aside0.mk hin
    clear hin hS hsol hcs x0 x1 hl hx0 hO hK hP
    go_enter Try.func29, Try.ntmps29
    go_wp2_with (first | (go_at_call 30; rw [← HW1.out]; (with_reducible refine (shape_Initial.calls k _ _ lK _ _ lP (-1) _ _ ?s1 ?s2 ?s3 ?s4 HK.out).mono ?_); (case s1 => exact Kd.C_below HR.out.1 HWW.out.below); (case s2 => exact hcK); (case s3 => exact Kd.C_below HR.out.2 HWW.out.below); (case s4 => exact hcP); rintro e w3 ⟨rfl, hb3⟩; have HB3 := Aside0.mk hb3; clear hb3) | (go_at_call 52; (with_reducible refine (HH.out w3 (HWW.out.step HB3.out)).mono ?_); rintro e w4 ⟨rfl, v4, hW4, hF4⟩; obtain ⟨Av, cv, ev⟩ := Kd.R_slice hW4.own; subst ev; have hd3 := (show w4.cell? ⟨w.heap.size + 1, 3, none⟩ = some _ from (blk_cell hW4.blk 3).trans rfl); have HW4 := Aside0.mk hW4; clear hW4 hF4))
    go_ret
    exact ⟨_, rfl, by simpa using HW4.out.own, HW4.out.below⟩
  · rw [if_neg hx0] at hl ⊢
    have tx : decide (0 ≤ x) = false := decide_eq_false hx0
    clear hS hcs hl hx0 hO hK hP
    go_enter Try.func29, Try.ntmps29
    go_wp2_with (first | (go_at_call 30; rw [← HW1.out]; (with_reducible refine (shape_Initial.calls k _ _ lK _ _ lP (-1) _ _ ?s1 ?s2 ?s3 ?s4 HK.out).mono ?_); (case s1 => exact Kd.C_below HR.out.1 HWW.out.below); (case s2 => exact hcK); (case s3 => exact Kd.C_below HR.out.2 HWW.out.below); (case s4 => exact hcP); rintro e w3 ⟨rfl, hb3⟩; have HW3 := Aside0.mk (HWW.out.step hb3); have hd3 := (show w3.cell? ⟨w.heap.size + 1, 3, none⟩ = some _ from (blk_cell HW3.out.blk 3).trans rfl); clear hb3))
    go_ret
    exact ⟨_, rfl, HW3.out.own, HW3.out.below⟩
end Go.Proofs.Ytnomeokicfpidaa.EW
-- printed by myprint.py: a program of this repo over the kit's print
namespace Go.Proofs.Ytnomeokicfpidaa.Q
open Go.RowKit Go.Proofs.YtnomeokicfpidaaW.PrintWords Go.Proofs.YtnomeokicfpidaaW.PrintLast Go.Proofs.YtnomeokicfpidaaW.PrintMore
attribute [local go_sem] max2_int min2_int max_two min_two max_three min_three max_four min_four   -- for this text's walks alone
set_option linter.unusedVariables false
set_option linter.unusedSimpArgs false

/-! ### enter_Start: function 29 (by hand) -/
-- IMPORT EnterEn
def enter_Start.f (l0_0 l0_1 : List Int) : Option (List Int) := if M.validB l0_0 l0_1 = true ∧ (EW.startL l0_0 l0_1).length < 17592186044416 then some (EW.startL l0_0 l0_1) else none
theorem enter_Start.calls (A0_0 : Option Addr) (c0_0 : Nat) (l0_0 : List Int) (A0_1 : Option Addr) (c0_1 : Nat) (l0_1 : List Int) (r : List Int) (w : World) (hr0_0 : Kd.C (Kd.int .i64) w A0_0 l0_0.length l0_0) (hc0_0 : l0_0.length ≤ c0_0) (hr0_1 : Kd.C (Kd.int .i64) w A0_1 l0_1.length l0_1) (hc0_1 : l0_1.length ≤ c0_1) (h : enter_Start.f l0_0 l0_1 = some r) :
    Calls Try.prog 29 #[.agg #[.slice A0_0 l0_0.length c0_0, .slice A0_1 l0_1.length c0_1]] w fun e w' => ∃ v0_ : Value, e = .returned (v0_) ∧ Kd.R (Kd.int .i64) 3 w' w.heap.size (fun _ => True) v0_ r ∧ Below w.heap.size w w' := by
  unfold enter_Start.f at h
  by_cases c : M.validB l0_0 l0_1 = true ∧ (EW.startL l0_0 l0_1).length < 17592186044416
  · rw [if_pos c] at h
    obtain rfl := Option.some.inj h
    exact EW.start_calls hr0_0 hc0_0 hr0_1 hc0_1 (M.Ok.of_valid c.1) c.2
  · rw [if_neg c] at h; exact absurd h (by simp)

end Go.Proofs.Ytnomeokicfpidaa.Q
-- printed by myprint.py: a program of this repo over the kit's print
namespace Go.Proofs.Ytnomeokicfpidaa.Q
open Go.RowKit Go.Proofs.YtnomeokicfpidaaW.PrintWords Go.Proofs.YtnomeokicfpidaaW.PrintLast Go.Proofs.YtnomeokicfpidaaW.PrintMore
attribute [local go_sem] max2_int min2_int max_two min_two max_three min_three max_four min_four   -- for this text's walks alone
set_option linter.unusedVariables false
set_option linter.unusedSimpArgs false

/-! ### imprimaturkeep_Same_int: function 32 -/
def imprimaturkeep_Same_int.l0 : Nat → List Int → List Int → Int → Option (Bool)
  | 0, _, _, _ => none
  | k + 1, x0, x1, x5 => if x5 < (x0.length : Int) then (if 0 ≤ x5 then (if x5 < (x1.length : Int) then (if (rd x0 x5) = (rd x1 x5) then (imprimaturkeep_Same_int.l0 k x0 x1 (wrap64 (x5 + 1))) else (some false)) else (none)) else (none)) else (some true)
def imprimaturkeep_Same_int.f (k : Nat) (l0 : List Int) (l1 : List Int) : Option (Bool) := if (l0.length : Int) = (l1.length : Int) then (imprimaturkeep_Same_int.l0 k l0 l1 0) else (some false)
theorem imprimaturkeep_Same_int.mono_l : ∀ k, (∀ y0 y1 y2, LeO (imprimaturkeep_Same_int.l0 k y0 y1 y2) (imprimaturkeep_Same_int.l0 (k + 1) y0 y1 y2))
  | 0 => fun _ _ _ r h => by simp [imprimaturkeep_Same_int.l0] at h
  | k + 1 => by
    have ih0 := imprimaturkeep_Same_int.mono_l k
    · intro y0 y1 y2
      unfold imprimaturkeep_Same_int.l0
      repeat' first
      | (with_reducible exact ih0 _ _ _)
      | (with_reducible exact LeO.refl _)
      | (with_reducible exact LeO.none _)
      | (with_reducible refine LeO.ite ?_ ?_)
      | (with_reducible refine LeO.bind ?_ (fun _ => ?_))
      | exact ih0 _ _ _
      | exact LeO.none _
      | refine LeO.ite ?_ ?_
      | refine LeO.bind ?_ (fun _ => ?_)
theorem imprimaturkeep_Same_int.mono : ∀ a0 a1 k, LeO (imprimaturkeep_Same_int.f k a0 a1) (imprimaturkeep_Same_int.f (k + 1) a0 a1) := by
  intro a0 a1 k
  have ih0 := imprimaturkeep_Same_int.mono_l k
  unfold imprimaturkeep_Same_int.f
  repeat' first
      | (with_reducible exact ih0 _ _ _)
      | (with_reducible exact LeO.refl _)
      | (with_reducible exact LeO.none _)
      | (with_reducible refine LeO.ite ?_ ?_)
      | (with_reducible refine LeO.bind ?_ (fun _ => ?_))
      | exact ih0 _ _ _
      | exact LeO.none _
      | refine LeO.ite ?_ ?_
      | refine LeO.bind ?_ (fun _ => ?_)
set_option maxHeartbeats 8000000 in
set_option maxRecDepth 100000 in
theorem imprimaturkeep_Same_int.calls (k : Nat) (A0 : Option Addr) (c0 : Nat) (l0 : List Int) (A1 : Option Addr) (c1 : Nat) (l1 : List Int) (r : Bool) (w : World) (hr0 : Kd.C (Kd.int .i64) w A0 l0.length l0) (hc0 : l0.length ≤ c0) (hr1 : Kd.C (Kd.int .i64) w A1 l1.length l1) (hc1 : l1.length ≤ c1) (h : imprimaturkeep_Same_int.f k l0 l1 = some r) :
    Calls Try.prog 32 #[.slice A0 l0.length c0, .slice A1 l1.length c1] w fun e w' => e = .returned (.bool r) ∧ Drawn0 w w' := by
  have HR0 := Aside0.mk hr0
  have HC0 := Aside0.mk hc0
  clear hr0 hc0
  have HR1 := Aside0.mk hr1
  have HC1 := Aside0.mk hc1
  clear hr1 hc1
  have H : (if (l0.length : Int) = (l1.length : Int) then (imprimaturkeep_Same_int.l0 k l0 l1 0) else (some false)) = some r := h
  clear h
  by_cases c3 : (l0.length : Int) = (l1.length : Int)
  · rw [if_pos c3] at H
    have c3b0 : ((l0.length : Int) == (l1.length : Int)) = true := beq_iff_eq.mpr c3
    have c3b1 : ((l0.length : Int) != (l1.length : Int)) = false := bne_eq_false_iff_eq.mpr c3
    have c3b2 : (l0.length == l1.length) = true := by first | simpa using c3 | (simp at c3 ⊢; omega)
    clear c3
    have H' := Aside0.mk H
    clear H
    go_enter Try.func32, Try.ntmps32
    go_wp2
    repeat (go_quiet (fail); try go_wp2)
    go_loopg [5] k (fun kq v5 w' => ∃ (x5_1 : Int), v5 = .int .i64 x5_1 ∧ Aside0 (imprimaturkeep_Same_int.l0 kq l0 l1 x5_1 = some r) ∧ Aside0 (kq ≤ k) ∧ Drawn0 w w')
    case atStart => exact ⟨(0), (by first | rfl | (simp; done) | (simp [*]; done)), H', ⟨Nat.le_refl _⟩, by repeat (first | exact Drawn0.refl _ | apply Drawn0.step)⟩
    case round =>
      clear H'
      try clear c1
      try clear p2
      try clear c3
      try clear c3b0
      try clear c3b1
      try clear c3b2
      obtain ⟨x5_1, rfl, HA, HK1, ⟨m1, rfl⟩⟩ := hrel
      cases gk with
      | zero => exact absurd HA.out (by simp [imprimaturkeep_Same_int.l0])
      | succ k1 =>
        have H := HA.out
        clear HA
        simp only [imprimaturkeep_Same_int.l0] at H
        by_cases c4 : x5_1 < (l0.length : Int)
        · rw [if_pos c4] at H
          have c4b0 : decide (x5_1 < (l0.length : Int)) = true := decide_eq_true c4
          clear c4
          by_cases c5 : 0 ≤ x5_1
          · rw [if_pos c5] at H
            have c5b0 : decide (0 ≤ x5_1) = true := decide_eq_true c5
            clear c5
            by_cases c6 : x5_1 < (l1.length : Int)
            · rw [if_pos c6] at H
              have c6b0 : decide (x5_1 < (l1.length : Int)) = true := decide_eq_true c6
              clear c6
              by_cases c7 : (rd l0 x5_1) = (rd l1 x5_1)
              · rw [if_pos c7] at H
                have c7b0 : ((rd l0 x5_1) == (rd l1 x5_1)) = true := beq_iff_eq.mpr c7
                have c7b1 : ((rd l0 x5_1) != (rd l1 x5_1)) = false := bne_eq_false_iff_eq.mpr c7
                clear c7
                have H' := Aside0.mk H
                clear H
                have p101 : 0 ≤ (x5_1 : Int) := of_decide_eq_true (by first | (with_reducible assumption) | assumption)
                have q101 : x5_1 < (l0.length : Int) := of_decide_eq_true (by first | (with_reducible assumption) | assumption)
                obtain ⟨ad101, e101, hx101_0⟩ := Kd.at_int HR0.out x5_1 p101 q101
                cases e101
                replace p101 := eq_true p101
                replace q101 := eq_true q101
                have p102 : 0 ≤ (x5_1 : Int) := of_decide_eq_true (by first | (with_reducible assumption) | assumption)
                have q102 : x5_1 < (l1.length : Int) := of_decide_eq_true (by first | (with_reducible assumption) | assumption)
                obtain ⟨ad102, e102, hx102_0⟩ := Kd.at_int HR1.out x5_1 p102 q102
                cases e102
                replace p102 := eq_true p102
                replace q102 := eq_true q102
                go_wp2
                repeat (go_quiet (fail); try go_wp2)
                go_roundg k1
                case measure => have := HK1.out; omega
                case rel => exact ⟨(wrap64 (x5_1 + 1)), (by first | rfl | (simp; done) | (simp [*]; done)), H', ⟨by have := HK1.out; omega⟩, by repeat (first | exact Drawn0.refl _ | apply Drawn0.step)⟩
              · rw [if_neg c7] at H
                have c7b0 : ((rd l0 x5_1) == (rd l1 x5_1)) = false := beq_eq_false_iff_ne.mpr c7
                have c7b1 : ((rd l0 x5_1) != (rd l1 x5_1)) = true := bne_iff_ne.mpr c7
                obtain rfl := Option.some.inj H
                have p101 : 0 ≤ (x5_1 : Int) := of_decide_eq_true (by first | (with_reducible assumption) | assumption)
                have q101 : x5_1 < (l0.length : Int) := of_decide_eq_true (by first | (with_reducible assumption) | assumption)
                obtain ⟨ad101, e101, hx101_0⟩ := Kd.at_int HR0.out x5_1 p101 q101
                cases e101
                replace p101 := eq_true p101
                replace q101 := eq_true q101
                have p102 : 0 ≤ (x5_1 : Int) := of_decide_eq_true (by first | (with_reducible assumption) | assumption)
                have q102 : x5_1 < (l1.length : Int) := of_decide_eq_true (by first | (with_reducible assumption) | assumption)
                obtain ⟨ad102, e102, hx102_0⟩ := Kd.at_int HR1.out x5_1 p102 q102
                cases e102
                replace p102 := eq_true p102
                replace q102 := eq_true q102
                go_wp2
                repeat (go_quiet (fail); try go_wp2)
                go_ret
                exact ⟨by first | rfl | (simp; done) | (simp [*]; done), by repeat (first | exact Drawn0.refl _ | apply Drawn0.step)⟩
            · rw [if_neg c6] at H
              exact absurd H (by simp)
          · rw [if_neg c5] at H
            exact absurd H (by simp)
        · rw [if_neg c4] at H
          have c4b0 : decide (x5_1 < (l0.length : Int)) = false := decide_eq_false c4
          clear c4
          obtain rfl := Option.some.inj H
          go_wp2
          repeat (go_quiet (fail); try go_wp2)
          go_ret
          exact ⟨by first | rfl | (simp; done) | (simp [*]; done), by repeat (first | exact Drawn0.refl _ | apply Drawn0.step)⟩
  · rw [if_neg c3] at H
    have c3b0 : ((l0.length : Int) == (l1.length : Int)) = false := beq_eq_false_iff_ne.mpr c3
    have c3b1 : ((l0.length : Int) != (l1.length : Int)) = true := bne_iff_ne.mpr c3
    have c3b2 : (l0.length == l1.length) = false := by first | simpa using c3 | (simp at c3 ⊢; omega)
    obtain rfl := Option.some.inj H
    go_enter Try.func32, Try.ntmps32
    go_wp2
    repeat (go_quiet (fail); try go_wp2)
    go_ret
    exact ⟨by first | rfl | (simp; done) | (simp [*]; done), by repeat (first | exact Drawn0.refl _ | apply Drawn0.step)⟩

end Go.Proofs.Ytnomeokicfpidaa.Q
-- printed by myprint.py: a program of this repo over the kit's print
namespace Go.Proofs.Ytnomeokicfpidaa.Q
open Go.RowKit Go.Proofs.YtnomeokicfpidaaW.PrintWords Go.Proofs.YtnomeokicfpidaaW.PrintLast Go.Proofs.YtnomeokicfpidaaW.PrintMore
attribute [local go_sem] max2_int min2_int max_two min_two max_three min_three max_four min_four   -- for this text's walks alone
set_option linter.unusedVariables false
set_option linter.unusedSimpArgs false

/-! ### imprimaturlaw07_wakes: function 28 -/
def imprimaturlaw07_wakes.f (k : Nat)  : Option (Bool) := (enter_Start.f (([1] : List Int)) (([(-1)] : List Int))).bind fun t107 => ((imprimaturkeep_Same_int.f k t107 (([0] : List Int))).bind fun t113 => (some t113))
theorem imprimaturlaw07_wakes.mono : ∀ k, LeO (imprimaturlaw07_wakes.f k ) (imprimaturlaw07_wakes.f (k + 1) ) := by
  intro  k
  unfold imprimaturlaw07_wakes.f
  repeat' first
      | (with_reducible exact imprimaturkeep_Same_int.mono _ _ _)
      | (with_reducible exact LeO.refl _)
      | (with_reducible exact LeO.none _)
      | (with_reducible refine LeO.ite ?_ ?_)
      | (with_reducible refine LeO.bind ?_ (fun _ => ?_))
      | exact imprimaturkeep_Same_int.mono _ _ _
      | exact LeO.none _
      | refine LeO.ite ?_ ?_
      | refine LeO.bind ?_ (fun _ => ?_)
set_option maxHeartbeats 8000000 in
set_option maxRecDepth 100000 in
theorem imprimaturlaw07_wakes.calls (k : Nat)  (r : Bool) (w : World) (h : imprimaturlaw07_wakes.f k  = some r) :
    Calls Try.prog 28 #[] w fun e w' => e = .returned (.bool r) ∧ Below w.heap.size w w' := by
  have hu24 := Try.underlying24
  have HB := Aside0.mk (Below.refl w.heap.size w)
  have H : ((enter_Start.f (([1] : List Int)) (([(-1)] : List Int))).bind fun t107 => ((imprimaturkeep_Same_int.f k t107 (([0] : List Int))).bind fun t113 => (some t113))) = some r := h
  clear h
  obtain ⟨y101, hy101⟩ : ∃ y_ : List Int, y_ = (([1] : List Int)) := ⟨_, rfl⟩
  replace H : ((enter_Start.f y101 (([(-1)] : List Int))).bind fun t107 => ((imprimaturkeep_Same_int.f k t107 (([0] : List Int))).bind fun t113 => (some t113))) = some r := by first | (rw [hy101]; with_reducible exact H) | (have H2_ := (Option.bind_some _ _).symm.trans H; rw [hy101]; with_reducible exact H2_) | (have H2_ := (Option.bind_some _ _).symm.trans H; with_reducible exact H2_) | with_reducible exact H | (rw [hy101]; exact H) | exact H
  have Ny101 := Aside0.mk hy101
  clear hy101
  obtain ⟨y104, hy104⟩ : ∃ y_ : List Int, y_ = (([(-1)] : List Int)) := ⟨_, rfl⟩
  replace H : ((enter_Start.f y101 y104).bind fun t107 => ((imprimaturkeep_Same_int.f k t107 (([0] : List Int))).bind fun t113 => (some t113))) = some r := by first | (rw [hy104]; with_reducible exact H) | (have H2_ := (Option.bind_some _ _).symm.trans H; rw [hy104]; with_reducible exact H2_) | (have H2_ := (Option.bind_some _ _).symm.trans H; with_reducible exact H2_) | with_reducible exact H | (rw [hy104]; exact H) | exact H
  have Ny104 := Aside0.mk hy104
  clear hy104
  replace H := Option.bind_eq_some_iff.mp H
  obtain ⟨t107, A10, H⟩ := H
  replace H : ((imprimaturkeep_Same_int.f k t107 (([0] : List Int))).bind fun t113 => (some t113)) = some r := H
  have A1 := Aside0.mk A10
  clear A10
  obtain ⟨y110, hy110⟩ : ∃ y_ : List Int, y_ = (([0] : List Int)) := ⟨_, rfl⟩
  replace H : ((imprimaturkeep_Same_int.f k t107 y110).bind fun t113 => (some t113)) = some r := by first | (rw [hy110]; with_reducible exact H) | (have H2_ := (Option.bind_some _ _).symm.trans H; rw [hy110]; with_reducible exact H2_) | (have H2_ := (Option.bind_some _ _).symm.trans H; with_reducible exact H2_) | with_reducible exact H | (rw [hy110]; exact H) | exact H
  have Ny110 := Aside0.mk hy110
  clear hy110
  replace H := Option.bind_eq_some_iff.mp H
  obtain ⟨t113, A20, H⟩ := H
  replace H : (some t113) = some r := H
  have A2 := Aside0.mk A20
  clear A20
  obtain rfl := Option.some.inj H
  go_enter Try.func28, Try.ntmps28
  go_wp2_with (first | ((with_reducible refine gate_dst (N := 1) rfl ?_); refine Kd.R_lit (Kd.int .i64) _ 3 ?hg (N := 1) ?hd (xs := ([1] : List Int)) (inner := [.int .i64 1]) (ok := fun _ => True) (okp := fun _ => True) ?hr ?hp (fun _ hk => hk) trivial (Below.refl _ _) (Nat.le_refl _) (by simp) ?_; (case hd => rfl); (case hg => rfl); (case hr => first | (go_simp; done) | (go_simp; rfl)); (case hp => exact (Reps.one (show Kd.M (Kd.int .i64) _ _ _ 1 [.int .i64 1] from rfl) (Reps.none _ _))); intro v102 w3 ho4 hb hg_ hnew_; clear hg_ hnew_; (first | rw [← Ny101.out] at ho4 | (simp only [Int.reduceToNat] at ho4; rw [← Ny101.out] at ho4)); have n0_ := Aside0.mk (Kd.R_lower ho4 (below_size (by repeat (first | (with_reducible first | exact HB.out | apply below_alloc | apply pw_below_drewN | apply below_drew1) | exact HB.out)))); have n1_ := Aside0.mk (below_step (by repeat (first | (with_reducible first | exact HB.out | apply below_alloc | apply pw_below_drewN | apply below_drew1) | exact HB.out)) hb); clear HB; have HO103 := n0_; have HB := n1_; clear n0_ n1_; clear hb ho4) | ((with_reducible refine gate_dst (N := 2) rfl ?_); refine Kd.R_lit (Kd.int .i64) _ 3 ?hg (N := 2) ?hd (xs := ([(-1)] : List Int)) (inner := [.int .i64 (-1)]) (ok := fun _ => True) (okp := fun _ => True) ?hr ?hp (fun _ hk => hk) trivial (Below.refl _ _) (Nat.le_refl _) (by simp) ?_; (case hd => rfl); (case hg => rfl); (case hr => first | (go_simp; done) | (go_simp; rfl)); (case hp => exact (Reps.one (show Kd.M (Kd.int .i64) _ _ _ (-1) [.int .i64 (-1)] from rfl) (Reps.none _ _))); intro v105 w5 ho6 hb hg_ hnew_; clear hg_ hnew_; (first | rw [← Ny104.out] at ho6 | (simp only [Int.reduceToNat] at ho6; rw [← Ny104.out] at ho6)); have n0_ := Aside0.mk (Kd.R_elder' (by (with_reducible repeat (first | apply Kd.R_alloc | apply Kd.R_drewN | apply Kd.R_drew)); exact HO103.out) (Kd.R_base ho6) hb); have n1_ := Aside0.mk (Kd.R_lower (Kd.R_new' ho6 (Kd.R_lt (by (with_reducible repeat (first | apply Kd.R_alloc | apply Kd.R_drewN | apply Kd.R_drew)); exact HO103.out))) (below_size (by repeat (first | (with_reducible first | exact HB.out | apply below_alloc | apply pw_below_drewN | apply below_drew1) | exact HB.out)))); have n2_ := Aside0.mk (below_step (by repeat (first | (with_reducible first | exact HB.out | apply below_alloc | apply pw_below_drewN | apply below_drew1) | exact HB.out)) hb); clear HO103; clear HB; have HO103 := n0_; have HO106 := n1_; have HB := n2_; clear n0_ n1_ n2_; clear hb ho6; obtain ⟨Ao7, co7, eo7⟩ := Kd.R_slice HO106.out; subst eo7; obtain ⟨Ao8, co8, eo8⟩ := Kd.R_slice HO103.out; subst eo8) | ((with_reducible refine gate_callee (f := 29) rfl ?_); refine goesL_ (some 4) rfl rfl Try.func29 (by kernel_rfl) rfl #[.agg #[.slice Ao8 y101.length co8, .slice Ao7 y104.length co7]] rfl (by (try simp only [List.map_toArray, List.map_cons, List.map_nil]); first | done | rfl | (simp only [List.length_drop, List.length_take]; rfl)) ?_; (with_reducible refine (enter_Start.calls _ _ y101 _ _ y104 t107 _ ?side1 ?side2 ?side3 ?side4 A1.out).mono ?_); (case side1 => repeat (first | exact (Kd.R_reads' HO103.out).2.2 | (with_reducible refine Kd.C_alloc ?_ _) | (with_reducible refine Kd.C_drewN ?_ _) | (with_reducible refine Kd.C_drew ?_))); (case side2 => exact (Kd.R_reads' HO103.out).2.1); (case side3 => repeat (first | exact (Kd.R_reads' HO106.out).2.2 | (with_reducible refine Kd.C_alloc ?_ _) | (with_reducible refine Kd.C_drewN ?_ _) | (with_reducible refine Kd.C_drew ?_))); (case side4 => exact (Kd.R_reads' HO106.out).2.1); rintro e w9 ⟨v108, rfl, ho0, hb⟩; refine ⟨_, rfl, ?_⟩; have n0_ := Aside0.mk (Kd.R_elder' (by (with_reducible repeat (first | apply Kd.R_alloc | apply Kd.R_drewN | apply Kd.R_drew)); exact HO103.out) (Kd.R_base ho0) hb); have n1_ := Aside0.mk (Kd.R_elder' (by (with_reducible repeat (first | apply Kd.R_alloc | apply Kd.R_drewN | apply Kd.R_drew)); exact HO106.out) (Kd.R_base ho0) hb); have n2_ := Aside0.mk (Kd.R_lower (Kd.R_new' (Kd.R_new' ho0 (Kd.R_lt (by (with_reducible repeat (first | apply Kd.R_alloc | apply Kd.R_drewN | apply Kd.R_drew)); exact HO103.out))) (Kd.R_lt (by (with_reducible repeat (first | apply Kd.R_alloc | apply Kd.R_drewN | apply Kd.R_drew)); exact HO106.out))) (below_size (by repeat (first | (with_reducible first | exact HB.out | apply below_alloc | apply pw_below_drewN | apply below_drew1) | exact HB.out)))); have n3_ := Aside0.mk (below_step (by repeat (first | (with_reducible first | exact HB.out | apply below_alloc | apply pw_below_drewN | apply below_drew1) | exact HB.out)) hb); clear HO103; clear HO106; clear HB; have HO103 := n0_; have HO106 := n1_; have HO109 := n2_; have HB := n3_; clear n0_ n1_ n2_ n3_; (try clear hb); (try clear hb2); (try clear hk); (try clear hi); (try clear ho0)) | ((with_reducible refine gate_dst (N := 5) rfl ?_); refine Kd.R_lit (Kd.int .i64) _ 3 ?hg (N := 5) ?hd (xs := ([0] : List Int)) (inner := [.int .i64 0]) (ok := fun _ => True) (okp := fun _ => True) ?hr ?hp (fun _ hk => hk) trivial (Below.refl _ _) (Nat.le_refl _) (by simp) ?_; (case hd => rfl); (case hg => rfl); (case hr => first | (go_simp; done) | (go_simp; rfl)); (case hp => exact (Reps.one (show Kd.M (Kd.int .i64) _ _ _ 0 [.int .i64 0] from rfl) (Reps.none _ _))); intro v111 w10 ho11 hb hg_ hnew_; clear hg_ hnew_; (first | rw [← Ny110.out] at ho11 | (simp only [Int.reduceToNat] at ho11; rw [← Ny110.out] at ho11)); have n0_ := Aside0.mk (Kd.R_elder' (by (with_reducible repeat (first | apply Kd.R_alloc | apply Kd.R_drewN | apply Kd.R_drew)); exact HO103.out) (Kd.R_base ho11) hb); have n1_ := Aside0.mk (Kd.R_elder' (by (with_reducible repeat (first | apply Kd.R_alloc | apply Kd.R_drewN | apply Kd.R_drew)); exact HO106.out) (Kd.R_base ho11) hb); have n2_ := Aside0.mk (Kd.R_elder' (by (with_reducible repeat (first | apply Kd.R_alloc | apply Kd.R_drewN | apply Kd.R_drew)); exact HO109.out) (Kd.R_base ho11) hb); have n3_ := Aside0.mk (Kd.R_lower (Kd.R_new' (Kd.R_new' (Kd.R_new' ho11 (Kd.R_lt (by (with_reducible repeat (first | apply Kd.R_alloc | apply Kd.R_drewN | apply Kd.R_drew)); exact HO103.out))) (Kd.R_lt (by (with_reducible repeat (first | apply Kd.R_alloc | apply Kd.R_drewN | apply Kd.R_drew)); exact HO106.out))) (Kd.R_lt (by (with_reducible repeat (first | apply Kd.R_alloc | apply Kd.R_drewN | apply Kd.R_drew)); exact HO109.out))) (below_size (by repeat (first | (with_reducible first | exact HB.out | apply below_alloc | apply pw_below_drewN | apply below_drew1) | exact HB.out)))); have n4_ := Aside0.mk (below_step (by repeat (first | (with_reducible first | exact HB.out | apply below_alloc | apply pw_below_drewN | apply below_drew1) | exact HB.out)) hb); clear HO103; clear HO106; clear HO109; clear HB; have HO103 := n0_; have HO106 := n1_; have HO109 := n2_; have HO112 := n3_; have HB := n4_; clear n0_ n1_ n2_ n3_ n4_; clear hb ho11; obtain ⟨Ao12, co12, eo12⟩ := Kd.R_slice HO109.out; subst eo12; obtain ⟨Ao13, co13, eo13⟩ := Kd.R_slice HO112.out; subst eo13) | ((with_reducible refine gate_callee (f := 32) rfl ?_); refine goesL_ (some 6) rfl rfl Try.func32 (by kernel_rfl) rfl #[.slice Ao12 t107.length co12, .slice Ao13 y110.length co13] rfl (by (try simp only [List.map_toArray, List.map_cons, List.map_nil]); first | done | rfl | (simp only [List.length_drop, List.length_take]; rfl)) ?_; (with_reducible refine (imprimaturkeep_Same_int.calls k _ _ t107 _ _ y110 t113 _ ?side1 ?side2 ?side3 ?side4 A2.out).mono ?_); (case side1 => repeat (first | exact (Kd.R_reads' HO109.out).2.2 | (with_reducible refine Kd.C_alloc ?_ _) | (with_reducible refine Kd.C_drewN ?_ _) | (with_reducible refine Kd.C_drew ?_))); (case side2 => exact (Kd.R_reads' HO109.out).2.1); (case side3 => repeat (first | exact (Kd.R_reads' HO112.out).2.2 | (with_reducible refine Kd.C_alloc ?_ _) | (with_reducible refine Kd.C_drewN ?_ _) | (with_reducible refine Kd.C_drew ?_))); (case side4 => exact (Kd.R_reads' HO112.out).2.1); rintro e w' ⟨rfl, ⟨nd, rfl⟩⟩; refine ⟨_, rfl, ?_⟩))
  go_ret
  exact ⟨by first | rfl | (simp [errW_none, errW_some] <;> rfl) | (simp [*, errW_none, errW_some] <;> rfl), by repeat (first | (with_reducible first | exact HB.out | apply below_alloc | apply pw_below_drewN | apply below_drew1) | exact HB.out)⟩

end Go.Proofs.Ytnomeokicfpidaa.Q
