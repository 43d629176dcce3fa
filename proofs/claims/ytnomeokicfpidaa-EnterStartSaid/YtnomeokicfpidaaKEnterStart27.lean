-- merged by pack.py out of: YtnomeokicfpidaaMth YtnomeokicfpidaaQx10 YtnomeokicfpidaaQx14 YtnomeokicfpidaaQx42
import Derived.Lib.BitFns
import Derived.Test.YtnomeokicfpidaaWMore
import Derived.Test.YtnomeokicfpidaaWNEv
import Derived.Test.YtnomeokicfpidaaKEnterStart24
import Derived.Test.YtnomeokicfpidaaKEnterStart26
/-
  Plain lemmas: numbers and lists as the printed functions spell them. Conditions: none beyond each lemma's own.
-/
namespace Go.Proofs.Ytnomeokicfpidaa.M
open Go.RowKit Go.Proofs.YtnomeokicfpidaaW.PrintWords Go.Proofs.YtnomeokicfpidaaW.PrintLast Go.Proofs.YtnomeokicfpidaaW.PrintMore
set_option linter.unusedVariables false

theorem w64 {x : Int} (h0 : -9223372036854775808 ≤ x) (h1 : x ≤ 9223372036854775807) : wrap64 x = x := by unfold wrap64; omega
theorem w1 (i : Nat) (h : i < 4611686018427387904) : wrap64 ((i : Int) + 1) = ((i + 1 : Nat) : Int) := by rw [w64 (by omega) (by omega)]; omega
theorem rd_nat (xs : List Int) (i : Nat) : rd xs (i : Int) = xs.getD i 0 := by simp [rd]
theorem mn_eq (a b : Int) : mn a b = min a b := by unfold mn; split <;> omega
theorem mx_eq (a b : Int) : mx a b = max a b := by unfold mx; split <;> omega

/-- One round more, nothing asked. -/
theorem Ev.st {α : Type} {g f : Nat → Option α} {r : α} (k : Ev f r) (h : ∀ k, g (k + 1) = f k) : Ev g r := Ev.step h k
theorem Ev.ret {α : Type} {g : Nat → Option α} {r : α} (h : ∀ k, g (k + 1) = some r) : Ev g r := Ev.step (f := fun _ => some r) h (Ev.now r)
theorem Ev.cg {α : Type} {g f : Nat → Option α} {r : α} (k : Ev f r) (h : ∀ k, g k = f k) : Ev g r := Ev.congr h k
theorem Ev.bd {α β : Type} {g : Nat → Option α} {f : Nat → α → Option β} {a : α} {r : β} (h : Ev g a) (k : Ev (fun n => f n a) r) : Ev (fun n => (g n).bind (fun x => f n x)) r := Ev.bind h k
theorem Ev.som {α β : Type} {f : Nat → α → Option β} {a : α} {r : β} (k : Ev (fun n => f n a) r) : Ev (fun n => (some a).bind (fun x => f n x)) r := k
theorem Ev.pos {α : Type} {c : Prop} [Decidable c] {f g : Nat → Option α} {r : α} (h : c) (k : Ev f r) : Ev (fun n => if c then f n else g n) r := by simpa [h] using k
theorem Ev.neg {α : Type} {c : Prop} [Decidable c] {f g : Nat → Option α} {r : α} (h : ¬ c) (k : Ev g r) : Ev (fun n => if c then f n else g n) r := by simpa [h] using k
theorem Ev.ite {α : Type} {c : Prop} [Decidable c] {f g : Nat → Option α} {r s : α} (k : c → Ev f r) (l : ¬ c → Ev g s) : Ev (fun n => if c then f n else g n) (if c then r else s) := by
  by_cases h : c
  · simpa [h] using k h
  · simpa [h] using l h
theorem Ev.iff {α : Type} {c : Prop} [Decidable c] {f g : Nat → Option α} {r : α} (k : c → Ev f r) (l : ¬ c → Ev g r) : Ev (fun n => if c then f n else g n) r := by
  by_cases h : c
  · simpa [h] using k h
  · simpa [h] using l h
theorem Ev.val {α : Type} {g : Nat → Option α} {r s : α} (h : Ev g r) (e : r = s) : Ev g s := e ▸ h
theorem Ev.un {α : Type} {g : Nat → Option α} {r s : α} (h : Ev g r) (h' : Ev g s) : r = s := by
  obtain ⟨K, h⟩ := h
  obtain ⟨L, h'⟩ := h'
  have a := h (max K L) (Nat.le_max_left _ _)
  have b := h' (max K L) (Nat.le_max_right _ _)
  rw [a] at b; exact Option.some.inj b

theorem len_le {xs : List Int} {h : xs.length * 8 ≤ 140737488351232} : xs.length ≤ 17592186043904 := by omega
end Go.Proofs.Ytnomeokicfpidaa.M
-- printed by myprint.py: a program of this repo over the kit's print
namespace Go.Proofs.Ytnomeokicfpidaa.Q
open Go.RowKit Go.Proofs.YtnomeokicfpidaaW.PrintWords Go.Proofs.YtnomeokicfpidaaW.PrintLast Go.Proofs.YtnomeokicfpidaaW.PrintMore
attribute [local go_sem] max2_int min2_int max_two min_two max_three min_three max_four min_four   -- for this text's walks alone
set_option linter.unusedVariables false
set_option linter.unusedSimpArgs false

/-! ### imprimaturref06_Shape_Kids: function 46 -/
def imprimaturref06_Shape_Kids.l0 : Nat → Int → List Int → Int → Int → List Int → List Int → Option (List Int)
  | 0, _, _, _, _, _, _ => none
  | k + 1, x1, x5, x9, x10, x102000, x102001 => if x10 < x9 then (if 0 ≤ x10 then (if x10 < (x102001.length : Int) then (if (rd x102001 x10) = x1 then (if x5.length < 17592186044416 then (imprimaturref06_Shape_Kids.l0 k x1 (x5 ++ [x10]) x9 (wrap64 (x10 + 1)) x102000 x102001) else (none)) else (imprimaturref06_Shape_Kids.l0 k x1 x5 x9 (wrap64 (x10 + 1)) x102000 x102001)) else (none)) else (none)) else (some x5)
def imprimaturref06_Shape_Kids.f (k : Nat) (l0_0 : List Int) (l0_1 : List Int) (a1 : Int) : Option (List Int) := imprimaturref06_Shape_Kids.l0 k a1 ([] : List Int) (l0_1.length : Int) 0 l0_0 l0_1
theorem imprimaturref06_Shape_Kids.mono_l : ∀ k, (∀ y0 y1 y2 y3 y4 y5, LeO (imprimaturref06_Shape_Kids.l0 k y0 y1 y2 y3 y4 y5) (imprimaturref06_Shape_Kids.l0 (k + 1) y0 y1 y2 y3 y4 y5))
  | 0 => fun _ _ _ _ _ _ r h => by simp [imprimaturref06_Shape_Kids.l0] at h
  | k + 1 => by
    have ih0 := imprimaturref06_Shape_Kids.mono_l k
    · intro y0 y1 y2 y3 y4 y5
      unfold imprimaturref06_Shape_Kids.l0
      repeat' first
      | (with_reducible exact ih0 _ _ _ _ _ _)
      | (with_reducible exact LeO.refl _)
      | (with_reducible exact LeO.none _)
      | (with_reducible refine LeO.ite ?_ ?_)
      | (with_reducible refine LeO.bind ?_ (fun _ => ?_))
      | exact ih0 _ _ _ _ _ _
      | exact LeO.none _
      | refine LeO.ite ?_ ?_
      | refine LeO.bind ?_ (fun _ => ?_)
theorem imprimaturref06_Shape_Kids.mono : ∀ a0 a1 a2 k, LeO (imprimaturref06_Shape_Kids.f k a0 a1 a2) (imprimaturref06_Shape_Kids.f (k + 1) a0 a1 a2) := by
  intro a0 a1 a2 k
  have ih0 := imprimaturref06_Shape_Kids.mono_l k
  unfold imprimaturref06_Shape_Kids.f
  repeat' first
      | (with_reducible exact ih0 _ _ _ _ _ _)
      | (with_reducible exact LeO.refl _)
      | (with_reducible exact LeO.none _)
      | (with_reducible refine LeO.ite ?_ ?_)
      | (with_reducible refine LeO.bind ?_ (fun _ => ?_))
      | exact ih0 _ _ _ _ _ _
      | exact LeO.none _
      | refine LeO.ite ?_ ?_
      | refine LeO.bind ?_ (fun _ => ?_)
set_option maxHeartbeats 8000000 in
set_option maxRecDepth 100000 in
theorem imprimaturref06_Shape_Kids.calls (k : Nat) (A0_0 : Option Addr) (c0_0 : Nat) (l0_0 : List Int) (A0_1 : Option Addr) (c0_1 : Nat) (l0_1 : List Int) (a1 : Int) (r : List Int) (w : World) (hr0_0 : Kd.C (Kd.int .i64) w A0_0 l0_0.length l0_0) (hc0_0 : l0_0.length ≤ c0_0) (hr0_1 : Kd.C (Kd.int .i64) w A0_1 l0_1.length l0_1) (hc0_1 : l0_1.length ≤ c0_1) (h : imprimaturref06_Shape_Kids.f k l0_0 l0_1 a1 = some r) :
    Calls Try.prog 46 #[.agg #[.slice A0_0 l0_0.length c0_0, .slice A0_1 l0_1.length c0_1], .int .i64 a1] w fun e w' => ∃ v0_ : Value, e = .returned (v0_) ∧ Kd.R (Kd.int .i64) 3 w' w.heap.size (fun _ => True) v0_ r ∧ Below w.heap.size w w' := by
  have hu25 := Try.underlying25
  have HR0_0 := Aside0.mk hr0_0
  have HC0_0 := Aside0.mk hc0_0
  clear hr0_0 hc0_0
  have HR0_1 := Aside0.mk hr0_1
  have HC0_1 := Aside0.mk hc0_1
  clear hr0_1 hc0_1
  have HB := Aside0.mk (Below.refl w.heap.size w)
  have H : (imprimaturref06_Shape_Kids.l0 k a1 ([] : List Int) (l0_1.length : Int) 0 l0_0 l0_1) = some r := h
  clear h
  have H' := Aside0.mk H
  clear H
  go_enter Try.func46, Try.ntmps46
  go_wp2_with (first | ((with_reducible refine gate_dst (N := 2) rfl ?_); refine box_event ?hg (N := 2) ?hd (cs := #[.slice A0_0 l0_0.length c0_0, .slice A0_1 l0_1.length c0_1]) (t := 25) ?hr ?_; (case hd => rfl); (case hg => rfl); (case hr => first | (go_simp; done) | (go_simp; rfl)); intro gb101 hg w3 hbox hb; have n0_ := Aside0.mk (below_step (by repeat (first | (with_reducible first | exact HB.out | apply below_alloc | apply pw_below_drewN | apply below_drew1) | exact HB.out)) hb); have n1_ := Aside0.mk (hbox); have n2_ := Aside0.mk ((by rw [hg]; exact (below_size (by repeat (first | (with_reducible first | exact HB.out | apply below_alloc | apply pw_below_drewN | apply below_drew1) | exact HB.out))) : w.heap.size ≤ gb101)); have n3_ := Aside0.mk ((by rw [hg]; exact (below_size (by repeat (first | (with_reducible first | exact HB.out | apply below_alloc | apply pw_below_drewN | apply below_drew1) | exact HB.out))) : w.heap.size ≤ gb101)); clear HB; have HB := n0_; have BK101 := n1_; have GW101 := n2_; have GE101 := n3_; clear n0_ n1_ n2_ n3_; clear hb hbox hg; have hcz4_0 : w3.cell? ⟨gb101, 0, none⟩ = some (.slice A0_0 l0_0.length c0_0) := (blk_cell BK101.out 0).trans rfl; have hcz4_1 : w3.cell? ⟨gb101, 1, none⟩ = some (.slice A0_1 l0_1.length c0_1) := (blk_cell BK101.out 1).trans rfl; have hfz4_0 := blk_frozen BK101.out 0; have hfz4_1 := blk_frozen BK101.out 1))
  go_loopg [5, 10] k (fun kq v5 v10 w' => ∃ (x5_1 : List Int) (x10_1 : Int), v10 = .int .i64 x10_1 ∧ Aside0 (imprimaturref06_Shape_Kids.l0 kq a1 x5_1 (l0_1.length : Int) x10_1 l0_0 l0_1 = some r) ∧ Aside0 (kq ≤ k) ∧ Aside0 (Kd.R (Kd.int .i64) 3 w' w.heap.size (fun _ => True) v5 x5_1) ∧ Aside0 (w'.heap[gb101]? = some (.cells #[(.slice A0_0 l0_0.length c0_0), (.slice A0_1 l0_1.length c0_1)] 25 (0, 0))) ∧ Aside0 (Below w.heap.size w w'))
  case atStart => exact ⟨(([] : List Int)), (0), (by first | rfl | (simp; done) | (simp [*]; done)), H', ⟨Nat.le_refl _⟩, ⟨by first | exact Kd.R_nil _ _ _ _ _ | exact Kd.N_nil _ _ _ _ _ | exact Kd.V_nil _ _ _ _ _ | exact Kd.Q_nil _ _ _ _ _ | exact Kd.S_nil _ _ _ _ _⟩, ⟨by (with_reducible repeat (first | refine blk_drewN ?_ _ | refine blk_drew ?_ | refine blk_alloc ?_ _)); exact BK101.out⟩, ⟨by repeat (first | (with_reducible first | exact HB.out | apply below_alloc | apply pw_below_drewN | apply below_drew1 | refine below_set ?_ GE101.out) | exact HB.out)⟩⟩
  case round =>
    clear H'
    try clear p2
    try clear c4
    try clear hcz4_0
    try clear hcz4_1
    try clear hfz4_0
    try clear hfz4_1
    obtain ⟨x5_1, x10_1, rfl, HA, HK1, HO_5, BK101, HB⟩ := hrel
    cases gk with
    | zero => exact absurd HA.out (by simp [imprimaturref06_Shape_Kids.l0])
    | succ k1 =>
      have H := HA.out
      clear HA
      simp only [imprimaturref06_Shape_Kids.l0] at H
      by_cases c5 : x10_1 < (l0_1.length : Int)
      · rw [if_pos c5] at H
        have c5b0 : decide (x10_1 < (l0_1.length : Int)) = true := decide_eq_true c5
        clear c5
        by_cases c6 : 0 ≤ x10_1
        · rw [if_pos c6] at H
          have c6b0 : decide (0 ≤ x10_1) = true := decide_eq_true c6
          clear c6
          by_cases c7 : x10_1 < (l0_1.length : Int)
          · rw [if_pos c7] at H
            have c7b0 : decide (x10_1 < (l0_1.length : Int)) = true := decide_eq_true c7
            clear c7
            by_cases c8 : (rd l0_1 x10_1) = a1
            · rw [if_pos c8] at H
              have c8b0 : ((rd l0_1 x10_1) == a1) = true := beq_iff_eq.mpr c8
              have c8b1 : ((rd l0_1 x10_1) != a1) = false := bne_eq_false_iff_eq.mpr c8
              clear c8
              by_cases c9 : x5_1.length < 17592186044416
              · rw [if_pos c9] at H
                have LMc9 := Aside0.mk c9
                clear c9
                obtain ⟨y103, hy103⟩ : ∃ y_ : List Int, y_ = (x5_1 ++ [x10_1]) := ⟨_, rfl⟩
                replace H : (imprimaturref06_Shape_Kids.l0 k1 a1 y103 (l0_1.length : Int) (wrap64 (x10_1 + 1)) l0_0 l0_1) = some r := by first | (rw [hy103]; with_reducible exact H) | (have H2_ := (Option.bind_some _ _).symm.trans H; rw [hy103]; with_reducible exact H2_) | (have H2_ := (Option.bind_some _ _).symm.trans H; with_reducible exact H2_) | with_reducible exact H | (rw [hy103]; exact H) | exact H
                have Ny103 := Aside0.mk hy103
                clear hy103
                have H' := Aside0.mk H
                clear H
                have hcz10_0 : wr.cell? ⟨gb101, 0, none⟩ = some (.slice A0_0 l0_0.length c0_0) := (blk_cell BK101.out 0).trans rfl
                have hcz10_1 : wr.cell? ⟨gb101, 1, none⟩ = some (.slice A0_1 l0_1.length c0_1) := (blk_cell BK101.out 1).trans rfl
                have hfz10_0 := blk_frozen BK101.out 0
                have hfz10_1 := blk_frozen BK101.out 1
                have p102 : 0 ≤ (x10_1 : Int) := of_decide_eq_true (by first | (with_reducible assumption) | assumption)
                have q102 : x10_1 < (l0_1.length : Int) := of_decide_eq_true (by first | (with_reducible assumption) | assumption)
                obtain ⟨ad102, e102, hx102_0⟩ := Kd.at_int HR0_1.out x10_1 p102 q102
                cases e102
                replace hx102_0 := (HB.out.cell (World.block_lt_of_cell? w _ hx102_0)).trans hx102_0
                replace p102 := eq_true p102
                replace q102 := eq_true q102
                go_wp2_with (first | ((with_reducible refine gate_builtin (b := .append) (xs := #[.tmp 20, .tmp 22]) rfl ?_); at_builtin; refine Kd.R_append (Kd.int .i64) (w0 := w) w.heap.size rfl (.tmp 20) (.tmp 22) 22 3 (.int .i64 0) 8 rfl Try.underlying22 info3 rfl (by decide) (by omega) u5 x5_1 x10_1 [.int .i64 x10_1] (fun _ => True) (fun _ => False) rfl rfl ?aP (fun _ hk => hk.elim) ?aF ?aO ?aB ?aS ?aL ?_; (case aP => exact rfl); (case aB => exact (by repeat (first | (with_reducible first | exact HB.out | apply below_alloc | apply pw_below_drewN | apply below_drew1 | refine below_set ?_ GE101.out) | exact HB.out))); (case aF => exact (fun _ _ => trivial)); (case aO => exact (by (with_reducible repeat (first | apply Kd.R_alloc | apply Kd.R_drewN | apply Kd.R_drew)); exact HO_5.out)); (case aS => exact (below_size (by repeat (first | (with_reducible first | exact HB.out | apply below_alloc | apply pw_below_drewN | apply below_drew1 | refine below_set ?_ GE101.out) | exact HB.out)))); (case aL => have := LMc9.out; omega); intro v104 w11 ho hb hg hat; rw [← Ny103.out] at ho; have n0_ := Aside0.mk (blk_grown (g := gb101) (o := .cells #[.slice A0_0 l0_0.length c0_0, .slice (some ad102) l0_1.length c0_1] 25 (0, 0)) (by (with_reducible repeat (first | refine blk_drewN ?_ _ | refine blk_drew ?_ | refine blk_alloc ?_ _)); exact BK101.out) hg (Kd.R_ne HO_5.out BK101.out (by decide))); have n1_ := Aside0.mk (hb); have n2_ := Aside0.mk (ho); clear BK101; clear HB; clear HO_5; have BK101 := n0_; have HB := n1_; have HO105 := n2_; clear n0_ n1_ n2_; clear ho hb hg hat))
                go_roundg k1
                case measure => have := HK1.out; omega
                case rel => exact ⟨(y103), (wrap64 (x10_1 + 1)), (by first | rfl | (simp; done) | (simp [*]; done)), H', ⟨by have := HK1.out; omega⟩, ⟨by (with_reducible repeat (first | apply Kd.R_alloc | apply Kd.R_drewN | apply Kd.R_drew)); exact HO105.out⟩, ⟨by (with_reducible repeat (first | refine blk_drewN ?_ _ | refine blk_drew ?_ | refine blk_alloc ?_ _)); exact BK101.out⟩, ⟨by repeat (first | (with_reducible first | exact HB.out | apply below_alloc | apply pw_below_drewN | apply below_drew1 | refine below_set ?_ GE101.out) | exact HB.out)⟩⟩
              · rw [if_neg c9] at H
                exact absurd H (by simp)
            · rw [if_neg c8] at H
              have c8b0 : ((rd l0_1 x10_1) == a1) = false := beq_eq_false_iff_ne.mpr c8
              have c8b1 : ((rd l0_1 x10_1) != a1) = true := bne_iff_ne.mpr c8
              have H' := Aside0.mk H
              clear H
              have hcz12_0 : wr.cell? ⟨gb101, 0, none⟩ = some (.slice A0_0 l0_0.length c0_0) := (blk_cell BK101.out 0).trans rfl
              have hcz12_1 : wr.cell? ⟨gb101, 1, none⟩ = some (.slice A0_1 l0_1.length c0_1) := (blk_cell BK101.out 1).trans rfl
              have hfz12_0 := blk_frozen BK101.out 0
              have hfz12_1 := blk_frozen BK101.out 1
              have p102 : 0 ≤ (x10_1 : Int) := of_decide_eq_true (by first | (with_reducible assumption) | assumption)
              have q102 : x10_1 < (l0_1.length : Int) := of_decide_eq_true (by first | (with_reducible assumption) | assumption)
              obtain ⟨ad102, e102, hx102_0⟩ := Kd.at_int HR0_1.out x10_1 p102 q102
              cases e102
              replace hx102_0 := (HB.out.cell (World.block_lt_of_cell? w _ hx102_0)).trans hx102_0
              replace p102 := eq_true p102
              replace q102 := eq_true q102
              go_wp2
              go_roundg k1
              case measure => have := HK1.out; omega
              case rel => exact ⟨(x5_1), (wrap64 (x10_1 + 1)), (by first | rfl | (simp; done) | (simp [*]; done)), H', ⟨by have := HK1.out; omega⟩, ⟨by (with_reducible repeat (first | apply Kd.R_alloc | apply Kd.R_drewN | apply Kd.R_drew)); exact HO_5.out⟩, ⟨by (with_reducible repeat (first | refine blk_drewN ?_ _ | refine blk_drew ?_ | refine blk_alloc ?_ _)); exact BK101.out⟩, ⟨by repeat (first | (with_reducible first | exact HB.out | apply below_alloc | apply pw_below_drewN | apply below_drew1 | refine below_set ?_ GE101.out) | exact HB.out)⟩⟩
          · rw [if_neg c7] at H
            exact absurd H (by simp)
        · rw [if_neg c6] at H
          exact absurd H (by simp)
      · rw [if_neg c5] at H
        have c5b0 : decide (x10_1 < (l0_1.length : Int)) = false := decide_eq_false c5
        clear c5
        obtain rfl := Option.some.inj H
        go_wp2
        go_ret
        exact ⟨_, by first | rfl | (simp [errW_none, errW_some] <;> rfl) | (simp [*, errW_none, errW_some] <;> rfl), by (with_reducible repeat (first | apply Kd.R_alloc | apply Kd.R_drewN | apply Kd.R_drew)); exact HO_5.out, by repeat (first | (with_reducible first | exact HB.out | apply below_alloc | apply pw_below_drewN | apply below_drew1 | refine below_set ?_ GE101.out) | exact HB.out)⟩

end Go.Proofs.Ytnomeokicfpidaa.Q
-- printed by myprint.py: a program of this repo over the kit's print
namespace Go.Proofs.Ytnomeokicfpidaa.Q
open Go.RowKit Go.Proofs.YtnomeokicfpidaaW.PrintWords Go.Proofs.YtnomeokicfpidaaW.PrintLast Go.Proofs.YtnomeokicfpidaaW.PrintMore
attribute [local go_sem] max2_int min2_int max_two min_two max_three min_three max_four min_four   -- for this text's walks alone
set_option linter.unusedVariables false
set_option linter.unusedSimpArgs false

/-! ### shape_Valid: function 20 -/
mutual
def shape_Valid.j0 : Nat → Int → Bool → List Int → List Int → Option (Bool)
  | 0, _, _, _, _ => none
  | k + 1, x3, x23, x102000, x102001 => if x23 = true then (some false) else (shape_Valid.l0 k x3 x102000 (x102000.length : Int) 0 x102000 x102001)
def shape_Valid.l0 : Nat → Int → List Int → Int → Int → List Int → List Int → Option (Bool)
  | 0, _, _, _, _, _, _ => none
  | k + 1, x3, x25, x26, x27, x102000, x102001 => if x27 < x26 then (if 0 ≤ x27 then (if x27 < (x25.length : Int) then (if x27 < (x102001.length : Int) then (if (rd x25 x27) < 1 then (shape_Valid.j2 k x3 (rd x25 x27) (rd x102001 x27) x25 x26 x27 true x102000 x102001) else (if (rd x25 x27) > 4 then (shape_Valid.j2 k x3 (rd x25 x27) (rd x102001 x27) x25 x26 x27 true x102000 x102001) else (if (rd x102001 x27) < (-1) then (shape_Valid.j2 k x3 (rd x25 x27) (rd x102001 x27) x25 x26 x27 true x102000 x102001) else (shape_Valid.j2 k x3 (rd x25 x27) (rd x102001 x27) x25 x26 x27 (decide ((rd x102001 x27) ≥ x27)) x102000 x102001)))) else (none)) else (none)) else (none)) else (shape_Valid.l1 k x3 (-1) x102000 x102001)
def shape_Valid.j2 : Nat → Int → Int → Int → List Int → Int → Int → Bool → List Int → List Int → Option (Bool)
  | 0, _, _, _, _, _, _, _, _, _ => none
  | k + 1, x3, x5, x6, x25, x26, x27, x51, x102000, x102001 => if x51 = true then (some false) else (if x6 = (-1) then ((shape_solid.f x5).bind fun t104 => (if t104 = true then (shape_Valid.l0 k x3 x25 x26 (wrap64 (x27 + 1)) x102000 x102001) else (some false))) else (if 0 ≤ x6 then (if x6 < (x102000.length : Int) then ((shape_solid.f (rd x102000 x6)).bind fun t106 => (if t106 = true then ((shape_solid.f x5).bind fun t107 => (if t107 = true then (shape_Valid.l0 k x3 x25 x26 (wrap64 (x27 + 1)) x102000 x102001) else (if (rd x102000 x6) = 1 then (shape_Valid.l0 k x3 x25 x26 (wrap64 (x27 + 1)) x102000 x102001) else (some false)))) else (some false))) else (none)) else (none)))
def shape_Valid.l1 : Nat → Int → Int → List Int → List Int → Option (Bool)
  | 0, _, _, _, _ => none
  | k + 1, x3, x7, x102000, x102001 => if x7 < x3 then (if x7 = (-1) then ((shape_Initial.f k x102000 x102001 x7).bind fun t109 => (if t109 < 0 then (some false) else (shape_Valid.l1 k x3 (wrap64 (x7 + 1)) x102000 x102001))) else ((shape_Kids.f k x102000 x102001 x7).bind fun t110 => (if (t110.length : Int) > 0 then ((shape_Initial.f k x102000 x102001 x7).bind fun t113 => (if t113 < 0 then (some false) else (shape_Valid.l1 k x3 (wrap64 (x7 + 1)) x102000 x102001))) else (shape_Valid.l1 k x3 (wrap64 (x7 + 1)) x102000 x102001)))) else (some true)
end
def shape_Valid.f (k : Nat) (l0_0 : List Int) (l0_1 : List Int) : Option (Bool) := if (l0_0.length : Int) < 1 then (shape_Valid.j0 k (l0_0.length : Int) true l0_0 l0_1) else (if (l0_0.length : Int) > 24 then (shape_Valid.j0 k (l0_0.length : Int) true l0_0 l0_1) else (shape_Valid.j0 k (l0_0.length : Int) ((l0_1.length : Int) != (l0_0.length : Int)) l0_0 l0_1))
theorem shape_Valid.mono_l : ∀ k, (∀ y0 y1 y2 y3, LeO (shape_Valid.j0 k y0 y1 y2 y3) (shape_Valid.j0 (k + 1) y0 y1 y2 y3)) ∧ (∀ y0 y1 y2 y3 y4 y5, LeO (shape_Valid.l0 k y0 y1 y2 y3 y4 y5) (shape_Valid.l0 (k + 1) y0 y1 y2 y3 y4 y5)) ∧ (∀ y0 y1 y2 y3 y4 y5 y6 y7 y8, LeO (shape_Valid.j2 k y0 y1 y2 y3 y4 y5 y6 y7 y8) (shape_Valid.j2 (k + 1) y0 y1 y2 y3 y4 y5 y6 y7 y8)) ∧ (∀ y0 y1 y2 y3, LeO (shape_Valid.l1 k y0 y1 y2 y3) (shape_Valid.l1 (k + 1) y0 y1 y2 y3))
  | 0 => ⟨fun _ _ _ _ r h => by simp [shape_Valid.j0] at h, fun _ _ _ _ _ _ r h => by simp [shape_Valid.l0] at h, fun _ _ _ _ _ _ _ _ _ r h => by simp [shape_Valid.j2] at h, fun _ _ _ _ r h => by simp [shape_Valid.l1] at h⟩
  | k + 1 => by
    obtain ⟨ih0, ih1, ih2, ih3⟩ := shape_Valid.mono_l k
    refine ⟨?_, ?_, ?_, ?_⟩
    · intro y0 y1 y2 y3
      unfold shape_Valid.j0
      repeat' first
      | (with_reducible exact ih0 _ _ _ _)
      | (with_reducible exact ih1 _ _ _ _ _ _)
      | (with_reducible exact ih2 _ _ _ _ _ _ _ _ _)
      | (with_reducible exact ih3 _ _ _ _)
      | (with_reducible exact shape_Initial.mono _ _ _ _)
      | (with_reducible exact shape_Kids.mono _ _ _ _)
      | (with_reducible exact LeO.refl _)
      | (with_reducible exact LeO.none _)
      | (with_reducible refine LeO.ite ?_ ?_)
      | (with_reducible refine LeO.bind ?_ (fun _ => ?_))
      | exact ih0 _ _ _ _
      | exact ih1 _ _ _ _ _ _
      | exact ih2 _ _ _ _ _ _ _ _ _
      | exact ih3 _ _ _ _
      | exact shape_Initial.mono _ _ _ _
      | exact shape_Kids.mono _ _ _ _
      | exact LeO.none _
      | refine LeO.ite ?_ ?_
      | refine LeO.bind ?_ (fun _ => ?_)
    · intro y0 y1 y2 y3 y4 y5
      unfold shape_Valid.l0
      repeat' first
      | (with_reducible exact ih0 _ _ _ _)
      | (with_reducible exact ih1 _ _ _ _ _ _)
      | (with_reducible exact ih2 _ _ _ _ _ _ _ _ _)
      | (with_reducible exact ih3 _ _ _ _)
      | (with_reducible exact shape_Initial.mono _ _ _ _)
      | (with_reducible exact shape_Kids.mono _ _ _ _)
      | (with_reducible exact LeO.refl _)
      | (with_reducible exact LeO.none _)
      | (with_reducible refine LeO.ite ?_ ?_)
      | (with_reducible refine LeO.bind ?_ (fun _ => ?_))
      | exact ih0 _ _ _ _
      | exact ih1 _ _ _ _ _ _
      | exact ih2 _ _ _ _ _ _ _ _ _
      | exact ih3 _ _ _ _
      | exact shape_Initial.mono _ _ _ _
      | exact shape_Kids.mono _ _ _ _
      | exact LeO.none _
      | refine LeO.ite ?_ ?_
      | refine LeO.bind ?_ (fun _ => ?_)
    · intro y0 y1 y2 y3 y4 y5 y6 y7 y8
      unfold shape_Valid.j2
      repeat' first
      | (with_reducible exact ih0 _ _ _ _)
      | (with_reducible exact ih1 _ _ _ _ _ _)
      | (with_reducible exact ih2 _ _ _ _ _ _ _ _ _)
      | (with_reducible exact ih3 _ _ _ _)
      | (with_reducible exact shape_Initial.mono _ _ _ _)
      | (with_reducible exact shape_Kids.mono _ _ _ _)
      | (with_reducible exact LeO.refl _)
      | (with_reducible exact LeO.none _)
      | (with_reducible refine LeO.ite ?_ ?_)
      | (with_reducible refine LeO.bind ?_ (fun _ => ?_))
      | exact ih0 _ _ _ _
      | exact ih1 _ _ _ _ _ _
      | exact ih2 _ _ _ _ _ _ _ _ _
      | exact ih3 _ _ _ _
      | exact shape_Initial.mono _ _ _ _
      | exact shape_Kids.mono _ _ _ _
      | exact LeO.none _
      | refine LeO.ite ?_ ?_
      | refine LeO.bind ?_ (fun _ => ?_)
    · intro y0 y1 y2 y3
      unfold shape_Valid.l1
      repeat' first
      | (with_reducible exact ih0 _ _ _ _)
      | (with_reducible exact ih1 _ _ _ _ _ _)
      | (with_reducible exact ih2 _ _ _ _ _ _ _ _ _)
      | (with_reducible exact ih3 _ _ _ _)
      | (with_reducible exact shape_Initial.mono _ _ _ _)
      | (with_reducible exact shape_Kids.mono _ _ _ _)
      | (with_reducible exact LeO.refl _)
      | (with_reducible exact LeO.none _)
      | (with_reducible refine LeO.ite ?_ ?_)
      | (with_reducible refine LeO.bind ?_ (fun _ => ?_))
      | exact ih0 _ _ _ _
      | exact ih1 _ _ _ _ _ _
      | exact ih2 _ _ _ _ _ _ _ _ _
      | exact ih3 _ _ _ _
      | exact shape_Initial.mono _ _ _ _
      | exact shape_Kids.mono _ _ _ _
      | exact LeO.none _
      | refine LeO.ite ?_ ?_
      | refine LeO.bind ?_ (fun _ => ?_)
theorem shape_Valid.mono : ∀ a0 a1 k, LeO (shape_Valid.f k a0 a1) (shape_Valid.f (k + 1) a0 a1) := by
  intro a0 a1 k
  obtain ⟨ih0, ih1, ih2, ih3⟩ := shape_Valid.mono_l k
  unfold shape_Valid.f
  repeat' first
      | (with_reducible exact ih0 _ _ _ _)
      | (with_reducible exact ih1 _ _ _ _ _ _)
      | (with_reducible exact ih2 _ _ _ _ _ _ _ _ _)
      | (with_reducible exact ih3 _ _ _ _)
      | (with_reducible exact shape_Initial.mono _ _ _ _)
      | (with_reducible exact shape_Kids.mono _ _ _ _)
      | (with_reducible exact LeO.refl _)
      | (with_reducible exact LeO.none _)
      | (with_reducible refine LeO.ite ?_ ?_)
      | (with_reducible refine LeO.bind ?_ (fun _ => ?_))
      | exact ih0 _ _ _ _
      | exact ih1 _ _ _ _ _ _
      | exact ih2 _ _ _ _ _ _ _ _ _
      | exact ih3 _ _ _ _
      | exact shape_Initial.mono _ _ _ _
      | exact shape_Kids.mono _ _ _ _
      | exact LeO.none _
      | refine LeO.ite ?_ ?_
      | refine LeO.bind ?_ (fun _ => ?_)
set_option maxHeartbeats 8000000 in
set_option maxRecDepth 100000 in
theorem shape_Valid.calls (k : Nat) (A0_0 : Option Addr) (c0_0 : Nat) (l0_0 : List Int) (A0_1 : Option Addr) (c0_1 : Nat) (l0_1 : List Int) (r : Bool) (w : World) (hr0_0 : Kd.C (Kd.int .i64) w A0_0 l0_0.length l0_0) (hc0_0 : l0_0.length ≤ c0_0) (hr0_1 : Kd.C (Kd.int .i64) w A0_1 l0_1.length l0_1) (hc0_1 : l0_1.length ≤ c0_1) (h : shape_Valid.f k l0_0 l0_1 = some r) :
    Calls Try.prog 20 #[.agg #[.slice A0_0 l0_0.length c0_0, .slice A0_1 l0_1.length c0_1]] w fun e w' => e = .returned (.bool r) ∧ Below w.heap.size w w' := by
  have hu24 := Try.underlying24
  have HR0_0 := Aside0.mk hr0_0
  have HC0_0 := Aside0.mk hc0_0
  clear hr0_0 hc0_0
  have HR0_1 := Aside0.mk hr0_1
  have HC0_1 := Aside0.mk hc0_1
  clear hr0_1 hc0_1
  have HB := Aside0.mk (Below.refl w.heap.size w)
  have H : (if (l0_0.length : Int) < 1 then (shape_Valid.j0 k (l0_0.length : Int) true l0_0 l0_1) else (if (l0_0.length : Int) > 24 then (shape_Valid.j0 k (l0_0.length : Int) true l0_0 l0_1) else (shape_Valid.j0 k (l0_0.length : Int) ((l0_1.length : Int) != (l0_0.length : Int)) l0_0 l0_1))) = some r := h
  clear h
  have HC2 := Aside0.mk H
  clear H
  go_enter Try.func20, Try.ntmps20
  go_upto_region 2 with (first | ((with_reducible refine gate_dst (N := 1) rfl ?_); (try (refine gate_guard (by rfl) ?_; dsimp only)); refine box_event ?hg (N := 1) ?hd (cs := #[.slice A0_0 l0_0.length c0_0, .slice A0_1 l0_1.length c0_1]) (t := 24) ?hr ?_; (case hd => rfl); (case hg => rfl); (case hr => first | (go_simp; done) | (go_simp; rfl)); intro gb101 hg w3 hbox hb; have n0_ := Aside0.mk (below_step (by repeat (first | (with_reducible first | exact HB.out | apply below_alloc | apply pw_below_drewN | apply below_drew1) | exact HB.out)) hb); have n1_ := Aside0.mk (hbox); have n2_ := Aside0.mk ((by rw [hg]; exact (below_size (by repeat (first | (with_reducible first | exact HB.out | apply below_alloc | apply pw_below_drewN | apply below_drew1) | exact HB.out))) : w.heap.size ≤ gb101)); have n3_ := Aside0.mk ((by rw [hg]; exact (below_size (by repeat (first | (with_reducible first | exact HB.out | apply below_alloc | apply pw_below_drewN | apply below_drew1) | exact HB.out))) : w.heap.size ≤ gb101)); clear HB; have HB := n0_; have BK101 := n1_; have GW101 := n2_; have GE101 := n3_; clear n0_ n1_ n2_ n3_; clear hb hbox hg; have hcz4_0 : w3.cell? ⟨gb101, 0, none⟩ = some (.slice A0_0 l0_0.length c0_0) := (blk_cell BK101.out 0).trans rfl; have hcz4_1 : w3.cell? ⟨gb101, 1, none⟩ = some (.slice A0_1 l0_1.length c0_1) := (blk_cell BK101.out 1).trans rfl; have hfz4_0 := blk_frozen BK101.out 0; have hfz4_1 := blk_frozen BK101.out 1))
  (try simp only [Act.put, List.setIfInBounds_toArray, List.set_cons_zero, List.set_cons_succ])
  go_cut [23] (fun v23 wc => ∃ (kq : Nat) (x23_1 : Bool), v23 = .bool x23_1 ∧ Aside0 (shape_Valid.j0 kq (l0_0.length : Int) x23_1 l0_0 l0_1 = some r) ∧ Aside0 (kq ≤ k) ∧ Aside0 (wc.heap[gb101]? = some (.cells #[(.slice A0_0 l0_0.length c0_0), (.slice A0_1 l0_1.length c0_1)] 24 (0, 0))) ∧ Aside0 (Below w.heap.size w wc))
  case first =>
    have H := HC2.out
    clear HC2
    by_cases c5 : (l0_0.length : Int) < 1
    · rw [if_pos c5] at H
      have c5b0 : decide ((l0_0.length : Int) < 1) = true := decide_eq_true c5
      have c5b1 : decide (l0_0.length < 1) = true := decide_eq_true (by omega)
      clear c5
      (first | rw [c5b0] | (simp only [i64_w, i32_w]; rw [c5b0]) | skip)
      have H' := Aside0.mk H
      clear H
      go_wp2
      go_meet
      case rel => exact ⟨_, (true), (by first | rfl | (simp; done) | (simp [*]; done)), H', ⟨by first | omega | exact Nat.le_refl _⟩, ⟨by (with_reducible repeat (first | refine blk_drewN ?_ _ | refine blk_drew ?_ | refine blk_alloc ?_ _)); exact BK101.out⟩, ⟨by repeat (first | (with_reducible first | exact HB.out | apply below_alloc | apply pw_below_drewN | apply below_drew1 | refine below_set ?_ GE101.out) | exact HB.out)⟩⟩
    · rw [if_neg c5] at H
      have c5b0 : decide ((l0_0.length : Int) < 1) = false := decide_eq_false c5
      have c5b1 : decide (l0_0.length < 1) = false := decide_eq_false (by omega)
      clear c5
      (first | rw [c5b0] | (simp only [i64_w, i32_w]; rw [c5b0]) | skip)
      by_cases c6 : (l0_0.length : Int) > 24
      · rw [if_pos c6] at H
        have c6b0 : decide (24 < (l0_0.length : Int)) = true := decide_eq_true c6
        have c6b1 : decide (24 < l0_0.length) = true := decide_eq_true (by omega)
        clear c6
        have H' := Aside0.mk H
        clear H
        go_wp2
        go_meet
        case rel => exact ⟨_, (true), (by first | rfl | (simp; done) | (simp [*]; done)), H', ⟨by first | omega | exact Nat.le_refl _⟩, ⟨by (with_reducible repeat (first | refine blk_drewN ?_ _ | refine blk_drew ?_ | refine blk_alloc ?_ _)); exact BK101.out⟩, ⟨by repeat (first | (with_reducible first | exact HB.out | apply below_alloc | apply pw_below_drewN | apply below_drew1 | refine below_set ?_ GE101.out) | exact HB.out)⟩⟩
      · rw [if_neg c6] at H
        have c6b0 : decide (24 < (l0_0.length : Int)) = false := decide_eq_false c6
        have c6b1 : decide (24 < l0_0.length) = false := decide_eq_false (by omega)
        clear c6
        have H' := Aside0.mk H
        clear H
        have hcz7_0 : w3.cell? ⟨gb101, 0, none⟩ = some (.slice A0_0 l0_0.length c0_0) := (blk_cell BK101.out 0).trans rfl
        have hcz7_1 : w3.cell? ⟨gb101, 1, none⟩ = some (.slice A0_1 l0_1.length c0_1) := (blk_cell BK101.out 1).trans rfl
        have hfz7_0 := blk_frozen BK101.out 0
        have hfz7_1 := blk_frozen BK101.out 1
        go_wp2
        go_meet
        case rel => exact ⟨_, (((l0_1.length : Int) != (l0_0.length : Int))), (by first | rfl | (simp; done) | (simp [*]; done)), H', ⟨by first | omega | exact Nat.le_refl _⟩, ⟨by (with_reducible repeat (first | refine blk_drewN ?_ _ | refine blk_drew ?_ | refine blk_alloc ?_ _)); exact BK101.out⟩, ⟨by repeat (first | (with_reducible first | exact HB.out | apply below_alloc | apply pw_below_drewN | apply below_drew1 | refine below_set ?_ GE101.out) | exact HB.out)⟩⟩
  case rest =>
    clear HC2
    try clear c2
    try clear p2
    try clear c5
    try clear c5b0
    try clear c5b1
    try clear c6
    try clear c6b0
    try clear c6b1
    try clear hcz4_0
    try clear hcz4_1
    try clear hcz7_0
    try clear hcz7_1
    try clear hfz4_0
    try clear hfz4_1
    try clear hfz7_0
    try clear hfz7_1
    obtain ⟨kq, x23_1, rfl, HA, HJ1, BK101, HB⟩ := hcut
    cases kq with
    | zero => exact absurd HA.out (by simp [shape_Valid.j0])
    | succ kj1 =>
      have H := HA.out
      clear HA
      simp only [shape_Valid.j0] at H
      by_cases c8 : x23_1 = true
      · subst c8
        have H1 : (some false) = some r := by rw [if_pos rfl] at H; exact H
        clear H
        have H := H1
        clear H1
        obtain rfl := Option.some.inj H
        go_wp2
        go_ret
        exact ⟨by first | rfl | (simp [errW_none, errW_some] <;> rfl) | (simp [*, errW_none, errW_some] <;> rfl), by repeat (first | (with_reducible first | exact HB.out | apply below_alloc | apply pw_below_drewN | apply below_drew1 | refine below_set ?_ GE101.out) | exact HB.out)⟩
      · replace c8 := Bool.eq_false_iff.mpr c8
        subst c8
        have H1 : (shape_Valid.l0 kj1 (l0_0.length : Int) l0_0 (l0_0.length : Int) 0 l0_0 l0_1) = some r := by rw [if_neg (show ¬ (false = true) by decide)] at H; exact H
        clear H
        have H := H1
        clear H1
        have H' := Aside0.mk H
        clear H
        have hcz9_0 : wc.cell? ⟨gb101, 0, none⟩ = some (.slice A0_0 l0_0.length c0_0) := (blk_cell BK101.out 0).trans rfl
        have hcz9_1 : wc.cell? ⟨gb101, 1, none⟩ = some (.slice A0_1 l0_1.length c0_1) := (blk_cell BK101.out 1).trans rfl
        have hfz9_0 := blk_frozen BK101.out 0
        have hfz9_1 := blk_frozen BK101.out 1
        go_wp2
        go_loopg [27] kj1 (fun kq v27 w' => ∃ (x27_2 : Int), v27 = .int .i64 x27_2 ∧ Aside0 (shape_Valid.l0 kq (l0_0.length : Int) l0_0 (l0_0.length : Int) x27_2 l0_0 l0_1 = some r) ∧ Aside0 (kq ≤ kj1) ∧ Aside0 (w'.heap[gb101]? = some (.cells #[(.slice A0_0 l0_0.length c0_0), (.slice A0_1 l0_1.length c0_1)] 24 (0, 0))) ∧ Aside0 (Below w.heap.size w w'))
        case atStart => exact ⟨(0), (by first | rfl | (simp; done) | (simp [*]; done)), H', ⟨Nat.le_refl _⟩, ⟨by (with_reducible repeat (first | refine blk_drewN ?_ _ | refine blk_drew ?_ | refine blk_alloc ?_ _)); exact BK101.out⟩, ⟨by repeat (first | (with_reducible first | exact HB.out | apply below_alloc | apply pw_below_drewN | apply below_drew1 | refine below_set ?_ GE101.out) | exact HB.out)⟩⟩
        case round =>
          clear H'
          try clear c2
          try clear p2
          try clear c5
          try clear c5b0
          try clear c5b1
          try clear c6
          try clear c6b0
          try clear c6b1
          try clear c8
          try clear hcz4_0
          try clear hcz4_1
          try clear hcz7_0
          try clear hcz7_1
          try clear hcz9_0
          try clear hcz9_1
          try clear hfz4_0
          try clear hfz4_1
          try clear hfz7_0
          try clear hfz7_1
          try clear hfz9_0
          try clear hfz9_1
          try clear p2
          obtain ⟨x27_2, rfl, HA, HK2, BK101, HB⟩ := hrel
          cases gk with
          | zero => exact absurd HA.out (by simp [shape_Valid.l0])
          | succ k2 =>
            have H := HA.out
            clear HA
            simp only [shape_Valid.l0] at H
            by_cases c10 : x27_2 < (l0_0.length : Int)
            · rw [if_pos c10] at H
              have c10b0 : decide (x27_2 < (l0_0.length : Int)) = true := decide_eq_true c10
              clear c10
              by_cases c11 : 0 ≤ x27_2
              · rw [if_pos c11] at H
                have c11b0 : decide (0 ≤ x27_2) = true := decide_eq_true c11
                clear c11
                by_cases c12 : x27_2 < (l0_0.length : Int)
                · rw [if_pos c12] at H
                  have c12b0 : decide (x27_2 < (l0_0.length : Int)) = true := decide_eq_true c12
                  clear c12
                  by_cases c13 : x27_2 < (l0_1.length : Int)
                  · rw [if_pos c13] at H
                    have c13b0 : decide (x27_2 < (l0_1.length : Int)) = true := decide_eq_true c13
                    clear c13
                    have HC14 := Aside0.mk H
                    clear H
                    have p102 : 0 ≤ (x27_2 : Int) := of_decide_eq_true (by first | (with_reducible assumption) | assumption)
                    have q102 : x27_2 < (l0_0.length : Int) := of_decide_eq_true (by first | (with_reducible assumption) | assumption)
                    obtain ⟨ad102, e102, hx102_0⟩ := Kd.at_int HR0_0.out x27_2 p102 q102
                    cases e102
                    replace hx102_0 := (HB.out.cell (World.block_lt_of_cell? w _ hx102_0)).trans hx102_0
                    replace p102 := eq_true p102
                    replace q102 := eq_true q102
                    have hcz15_0 : wr.cell? ⟨gb101, 0, none⟩ = some (.slice (some ad102) l0_0.length c0_0) := (blk_cell BK101.out 0).trans rfl
                    have hcz15_1 : wr.cell? ⟨gb101, 1, none⟩ = some (.slice A0_1 l0_1.length c0_1) := (blk_cell BK101.out 1).trans rfl
                    have hfz15_0 := blk_frozen BK101.out 0
                    have hfz15_1 := blk_frozen BK101.out 1
                    have p103 : 0 ≤ (x27_2 : Int) := of_decide_eq_true (by first | (with_reducible assumption) | assumption)
                    have q103 : x27_2 < (l0_1.length : Int) := of_decide_eq_true (by first | (with_reducible assumption) | assumption)
                    obtain ⟨ad103, e103, hx103_0⟩ := Kd.at_int HR0_1.out x27_2 p103 q103
                    cases e103
                    replace hx103_0 := (HB.out.cell (World.block_lt_of_cell? w _ hx103_0)).trans hx103_0
                    replace p103 := eq_true p103
                    replace q103 := eq_true q103
                    go_upto_region 8 with (fail)
                    go_cut [51] (fun v51 wc => ∃ (kq : Nat) (x51_13 : Bool), v51 = .bool x51_13 ∧ Aside0 (shape_Valid.j2 kq (l0_0.length : Int) (rd l0_0 x27_2) (rd l0_1 x27_2) l0_0 (l0_0.length : Int) x27_2 x51_13 l0_0 l0_1 = some r) ∧ Aside0 (kq ≤ k2) ∧ Aside0 (wc.heap[gb101]? = some (.cells #[(.slice (some ad102) l0_0.length c0_0), (.slice (some ad103) l0_1.length c0_1)] 24 (0, 0))) ∧ Aside0 (Below w.heap.size w wc))
                    case first =>
                      have H := HC14.out
                      clear HC14
                      by_cases c16 : (rd l0_0 x27_2) < 1
                      · rw [if_pos c16] at H
                        have c16b0 : decide ((rd l0_0 x27_2) < 1) = true := decide_eq_true c16
                        clear c16
                        (first | rw [c16b0] | (simp only [i64_w, i32_w]; rw [c16b0]) | skip)
                        have H' := Aside0.mk H
                        clear H
                        go_wp2
                        go_meet
                        case rel => exact ⟨_, (true), (by first | rfl | (simp; done) | (simp [*]; done)), H', ⟨by have := HJ1.out; have := HK2.out; first | omega | exact Nat.le_refl _⟩, ⟨by (with_reducible repeat (first | refine blk_drewN ?_ _ | refine blk_drew ?_ | refine blk_alloc ?_ _)); exact BK101.out⟩, ⟨by repeat (first | (with_reducible first | exact HB.out | apply below_alloc | apply pw_below_drewN | apply below_drew1 | refine below_set ?_ GE101.out) | exact HB.out)⟩⟩
                      · rw [if_neg c16] at H
                        have c16b0 : decide ((rd l0_0 x27_2) < 1) = false := decide_eq_false c16
                        clear c16
                        (first | rw [c16b0] | (simp only [i64_w, i32_w]; rw [c16b0]) | skip)
                        by_cases c17 : (rd l0_0 x27_2) > 4
                        · rw [if_pos c17] at H
                          have c17b0 : decide (4 < (rd l0_0 x27_2)) = true := decide_eq_true c17
                          clear c17
                          have H' := Aside0.mk H
                          clear H
                          go_wp2
                          go_meet
                          case rel => exact ⟨_, (true), (by first | rfl | (simp; done) | (simp [*]; done)), H', ⟨by have := HJ1.out; have := HK2.out; first | omega | exact Nat.le_refl _⟩, ⟨by (with_reducible repeat (first | refine blk_drewN ?_ _ | refine blk_drew ?_ | refine blk_alloc ?_ _)); exact BK101.out⟩, ⟨by repeat (first | (with_reducible first | exact HB.out | apply below_alloc | apply pw_below_drewN | apply below_drew1 | refine below_set ?_ GE101.out) | exact HB.out)⟩⟩
                        · rw [if_neg c17] at H
                          have c17b0 : decide (4 < (rd l0_0 x27_2)) = false := decide_eq_false c17
                          clear c17
                          by_cases c18 : (rd l0_1 x27_2) < (-1)
                          · rw [if_pos c18] at H
                            have c18b0 : decide ((rd l0_1 x27_2) < (-1)) = true := decide_eq_true c18
                            clear c18
                            have H' := Aside0.mk H
                            clear H
                            go_wp2
                            go_meet
                            case rel => exact ⟨_, (true), (by first | rfl | (simp; done) | (simp [*]; done)), H', ⟨by have := HJ1.out; have := HK2.out; first | omega | exact Nat.le_refl _⟩, ⟨by (with_reducible repeat (first | refine blk_drewN ?_ _ | refine blk_drew ?_ | refine blk_alloc ?_ _)); exact BK101.out⟩, ⟨by repeat (first | (with_reducible first | exact HB.out | apply below_alloc | apply pw_below_drewN | apply below_drew1 | refine below_set ?_ GE101.out) | exact HB.out)⟩⟩
                          · rw [if_neg c18] at H
                            have c18b0 : decide ((rd l0_1 x27_2) < (-1)) = false := decide_eq_false c18
                            clear c18
                            have H' := Aside0.mk H
                            clear H
                            go_wp2
                            go_meet
                            case rel => exact ⟨_, (decide ((rd l0_1 x27_2) ≥ x27_2)), (by first | rfl | (simp; done) | (simp [*]; done)), H', ⟨by have := HJ1.out; have := HK2.out; first | omega | exact Nat.le_refl _⟩, ⟨by (with_reducible repeat (first | refine blk_drewN ?_ _ | refine blk_drew ?_ | refine blk_alloc ?_ _)); exact BK101.out⟩, ⟨by repeat (first | (with_reducible first | exact HB.out | apply below_alloc | apply pw_below_drewN | apply below_drew1 | refine below_set ?_ GE101.out) | exact HB.out)⟩⟩
                    case rest =>
                      clear HC14
                      try clear c1
                      try clear p1
                      try clear q1
                      try clear hx1
                      try clear c2
                      try clear p2
                      try clear c5
                      try clear c5b0
                      try clear c5b1
                      try clear c6
                      try clear c6b0
                      try clear c6b1
                      try clear c8
                      try clear c10
                      try clear c10b0
                      try clear p10
                      try clear q10
                      try clear hx10
                      try clear c11
                      try clear c11b0
                      try clear c12
                      try clear c12b0
                      try clear c13
                      try clear c13b0
                      try clear c16
                      try clear c16b0
                      try clear c17
                      try clear c17b0
                      try clear c18
                      try clear c18b0
                      try clear hcz15_0
                      try clear hcz15_1
                      try clear hcz4_0
                      try clear hcz4_1
                      try clear hcz7_0
                      try clear hcz7_1
                      try clear hcz9_0
                      try clear hcz9_1
                      try clear hfz15_0
                      try clear hfz15_1
                      try clear hfz4_0
                      try clear hfz4_1
                      try clear hfz7_0
                      try clear hfz7_1
                      try clear hfz9_0
                      try clear hfz9_1
                      try clear hx102_0
                      try clear hx103_0
                      try clear p102
                      try clear p103
                      try clear p2
                      try clear q102
                      try clear q103
                      obtain ⟨kq, x51_13, rfl, HA, HJ13, BK101, HB⟩ := hcut
                      cases kq with
                      | zero => exact absurd HA.out (by simp [shape_Valid.j2])
                      | succ kj13 =>
                        have H := HA.out
                        clear HA
                        simp only [shape_Valid.j2] at H
                        by_cases c19 : x51_13 = true
                        · subst c19
                          have H1 : (some false) = some r := by rw [if_pos rfl] at H; exact H
                          clear H
                          have H := H1
                          clear H1
                          obtain rfl := Option.some.inj H
                          go_wp2
                          go_ret
                          exact ⟨by first | rfl | (simp [errW_none, errW_some] <;> rfl) | (simp [*, errW_none, errW_some] <;> rfl), by repeat (first | (with_reducible first | exact HB.out | apply below_alloc | apply pw_below_drewN | apply below_drew1 | refine below_set ?_ GE101.out) | exact HB.out)⟩
                        · replace c19 := Bool.eq_false_iff.mpr c19
                          subst c19
                          have H1 : (if (rd l0_1 x27_2) = (-1) then ((shape_solid.f (rd l0_0 x27_2)).bind fun t104 => (if t104 = true then (shape_Valid.l0 kj13 (l0_0.length : Int) l0_0 (l0_0.length : Int) (wrap64 (x27_2 + 1)) l0_0 l0_1) else (some false))) else (if 0 ≤ (rd l0_1 x27_2) then (if (rd l0_1 x27_2) < (l0_0.length : Int) then ((shape_solid.f (rd l0_0 (rd l0_1 x27_2))).bind fun t106 => (if t106 = true then ((shape_solid.f (rd l0_0 x27_2)).bind fun t107 => (if t107 = true then (shape_Valid.l0 kj13 (l0_0.length : Int) l0_0 (l0_0.length : Int) (wrap64 (x27_2 + 1)) l0_0 l0_1) else (if (rd l0_0 (rd l0_1 x27_2)) = 1 then (shape_Valid.l0 kj13 (l0_0.length : Int) l0_0 (l0_0.length : Int) (wrap64 (x27_2 + 1)) l0_0 l0_1) else (some false)))) else (some false))) else (none)) else (none))) = some r := by rw [if_neg (show ¬ (false = true) by decide)] at H; exact H
                          clear H
                          have H := H1
                          clear H1
                          by_cases c20 : (rd l0_1 x27_2) = (-1)
                          · rw [if_pos c20] at H
                            have c20b0 : ((rd l0_1 x27_2) == (-1)) = true := beq_iff_eq.mpr c20
                            have c20b1 : ((rd l0_1 x27_2) != (-1)) = false := bne_eq_false_iff_eq.mpr c20
                            clear c20
                            replace H := Option.bind_eq_some_iff.mp H
                            obtain ⟨t104, A210, H⟩ := H
                            replace H : (if t104 = true then (shape_Valid.l0 kj13 (l0_0.length : Int) l0_0 (l0_0.length : Int) (wrap64 (x27_2 + 1)) l0_0 l0_1) else (some false)) = some r := H
                            have A21 := Aside0.mk A210
                            clear A210
                            by_cases c22 : t104 = true
                            · subst c22
                              have H1 : (shape_Valid.l0 kj13 (l0_0.length : Int) l0_0 (l0_0.length : Int) (wrap64 (x27_2 + 1)) l0_0 l0_1) = some r := by rw [if_pos rfl] at H; exact H
                              clear H
                              have H := H1
                              clear H1
                              have H' := Aside0.mk H
                              clear H
                              go_wp2_with (first | (go_at_call 45; (with_reducible refine (shape_solid.calls (rd l0_0 x27_2) true _ A21.out).mono ?_); rintro e w' ⟨rfl, ⟨nd, rfl⟩⟩))
                              go_roundg kj13
                              case measure => have := HJ1.out; have := HK2.out; have := HJ13.out; omega
                              case rel => exact ⟨(wrap64 (x27_2 + 1)), (by first | rfl | (simp; done) | (simp [*]; done)), H', ⟨by have := HJ1.out; have := HK2.out; have := HJ13.out; omega⟩, ⟨by (with_reducible repeat (first | refine blk_drewN ?_ _ | refine blk_drew ?_ | refine blk_alloc ?_ _)); exact BK101.out⟩, ⟨by repeat (first | (with_reducible first | exact HB.out | apply below_alloc | apply pw_below_drewN | apply below_drew1 | refine below_set ?_ GE101.out) | exact HB.out)⟩⟩
                            · replace c22 := Bool.eq_false_iff.mpr c22
                              subst c22
                              have H1 : (some false) = some r := by rw [if_neg (show ¬ (false = true) by decide)] at H; exact H
                              clear H
                              have H := H1
                              clear H1
                              obtain rfl := Option.some.inj H
                              go_wp2_with (first | (go_at_call 45; (with_reducible refine (shape_solid.calls (rd l0_0 x27_2) false _ A21.out).mono ?_); rintro e w' ⟨rfl, ⟨nd, rfl⟩⟩))
                              go_ret
                              exact ⟨by first | rfl | (simp [errW_none, errW_some] <;> rfl) | (simp [*, errW_none, errW_some] <;> rfl), by repeat (first | (with_reducible first | exact HB.out | apply below_alloc | apply pw_below_drewN | apply below_drew1 | refine below_set ?_ GE101.out) | exact HB.out)⟩
                          · rw [if_neg c20] at H
                            have c20b0 : ((rd l0_1 x27_2) == (-1)) = false := beq_eq_false_iff_ne.mpr c20
                            have c20b1 : ((rd l0_1 x27_2) != (-1)) = true := bne_iff_ne.mpr c20
                            by_cases c23 : 0 ≤ (rd l0_1 x27_2)
                            · rw [if_pos c23] at H
                              have c23b0 : decide (0 ≤ (rd l0_1 x27_2)) = true := decide_eq_true c23
                              clear c23
                              by_cases c24 : (rd l0_1 x27_2) < (l0_0.length : Int)
                              · rw [if_pos c24] at H
                                have c24b0 : decide ((rd l0_1 x27_2) < (l0_0.length : Int)) = true := decide_eq_true c24
                                clear c24
                                replace H := Option.bind_eq_some_iff.mp H
                                obtain ⟨t106, A250, H⟩ := H
                                replace H : (if t106 = true then ((shape_solid.f (rd l0_0 x27_2)).bind fun t107 => (if t107 = true then (shape_Valid.l0 kj13 (l0_0.length : Int) l0_0 (l0_0.length : Int) (wrap64 (x27_2 + 1)) l0_0 l0_1) else (if (rd l0_0 (rd l0_1 x27_2)) = 1 then (shape_Valid.l0 kj13 (l0_0.length : Int) l0_0 (l0_0.length : Int) (wrap64 (x27_2 + 1)) l0_0 l0_1) else (some false)))) else (some false)) = some r := H
                                have A25 := Aside0.mk A250
                                clear A250
                                by_cases c26 : t106 = true
                                · subst c26
                                  have H1 : ((shape_solid.f (rd l0_0 x27_2)).bind fun t107 => (if t107 = true then (shape_Valid.l0 kj13 (l0_0.length : Int) l0_0 (l0_0.length : Int) (wrap64 (x27_2 + 1)) l0_0 l0_1) else (if (rd l0_0 (rd l0_1 x27_2)) = 1 then (shape_Valid.l0 kj13 (l0_0.length : Int) l0_0 (l0_0.length : Int) (wrap64 (x27_2 + 1)) l0_0 l0_1) else (some false)))) = some r := by rw [if_pos rfl] at H; exact H
                                  clear H
                                  have H := H1
                                  clear H1
                                  replace H := Option.bind_eq_some_iff.mp H
                                  obtain ⟨t107, A270, H⟩ := H
                                  replace H : (if t107 = true then (shape_Valid.l0 kj13 (l0_0.length : Int) l0_0 (l0_0.length : Int) (wrap64 (x27_2 + 1)) l0_0 l0_1) else (if (rd l0_0 (rd l0_1 x27_2)) = 1 then (shape_Valid.l0 kj13 (l0_0.length : Int) l0_0 (l0_0.length : Int) (wrap64 (x27_2 + 1)) l0_0 l0_1) else (some false))) = some r := H
                                  have A27 := Aside0.mk A270
                                  clear A270
                                  by_cases c28 : t107 = true
                                  · subst c28
                                    have H1 : (shape_Valid.l0 kj13 (l0_0.length : Int) l0_0 (l0_0.length : Int) (wrap64 (x27_2 + 1)) l0_0 l0_1) = some r := by rw [if_pos rfl] at H; exact H
                                    clear H
                                    have H := H1
                                    clear H1
                                    have H' := Aside0.mk H
                                    clear H
                                    have hcz29_0 : wc.cell? ⟨gb101, 0, none⟩ = some (.slice (some ad102) l0_0.length c0_0) := (blk_cell BK101.out 0).trans rfl
                                    have hcz29_1 : wc.cell? ⟨gb101, 1, none⟩ = some (.slice (some ad103) l0_1.length c0_1) := (blk_cell BK101.out 1).trans rfl
                                    have hfz29_0 := blk_frozen BK101.out 0
                                    have hfz29_1 := blk_frozen BK101.out 1
                                    have p105 : 0 ≤ ((rd l0_1 x27_2) : Int) := of_decide_eq_true (by first | (with_reducible assumption) | assumption)
                                    have q105 : (rd l0_1 x27_2) < (l0_0.length : Int) := of_decide_eq_true (by first | (with_reducible assumption) | assumption)
                                    obtain ⟨ad105, e105, hx105_0⟩ := Kd.at_int HR0_0.out (rd l0_1 x27_2) p105 q105
                                    obtain rfl : ad102 = ad105 := (by injection e105)
                                    replace hx105_0 := (HB.out.cell (World.block_lt_of_cell? w _ hx105_0)).trans hx105_0
                                    replace p105 := eq_true p105
                                    replace q105 := eq_true q105
                                    go_wp2_with (first | (go_at_call 45; (with_reducible refine (shape_solid.calls (rd l0_0 (rd l0_1 x27_2)) true _ A25.out).mono ?_); rintro e w' ⟨rfl, ⟨nd, rfl⟩⟩) | (go_at_call 45; (with_reducible refine (shape_solid.calls (rd l0_0 x27_2) true _ A27.out).mono ?_); rintro e w' ⟨rfl, ⟨nd, rfl⟩⟩))
                                    go_roundg kj13
                                    case measure => have := HJ1.out; have := HK2.out; have := HJ13.out; omega
                                    case rel => exact ⟨(wrap64 (x27_2 + 1)), (by first | rfl | (simp; done) | (simp [*]; done)), H', ⟨by have := HJ1.out; have := HK2.out; have := HJ13.out; omega⟩, ⟨by (with_reducible repeat (first | refine blk_drewN ?_ _ | refine blk_drew ?_ | refine blk_alloc ?_ _)); exact BK101.out⟩, ⟨by repeat (first | (with_reducible first | exact HB.out | apply below_alloc | apply pw_below_drewN | apply below_drew1 | refine below_set ?_ GE101.out) | exact HB.out)⟩⟩
                                  · replace c28 := Bool.eq_false_iff.mpr c28
                                    subst c28
                                    have H1 : (if (rd l0_0 (rd l0_1 x27_2)) = 1 then (shape_Valid.l0 kj13 (l0_0.length : Int) l0_0 (l0_0.length : Int) (wrap64 (x27_2 + 1)) l0_0 l0_1) else (some false)) = some r := by rw [if_neg (show ¬ (false = true) by decide)] at H; exact H
                                    clear H
                                    have H := H1
                                    clear H1
                                    by_cases c30 : (rd l0_0 (rd l0_1 x27_2)) = 1
                                    · rw [if_pos c30] at H
                                      have c30b0 : ((rd l0_0 (rd l0_1 x27_2)) == 1) = true := beq_iff_eq.mpr c30
                                      have c30b1 : ((rd l0_0 (rd l0_1 x27_2)) != 1) = false := bne_eq_false_iff_eq.mpr c30
                                      clear c30
                                      have H' := Aside0.mk H
                                      clear H
                                      have hcz31_0 : wc.cell? ⟨gb101, 0, none⟩ = some (.slice (some ad102) l0_0.length c0_0) := (blk_cell BK101.out 0).trans rfl
                                      have hcz31_1 : wc.cell? ⟨gb101, 1, none⟩ = some (.slice (some ad103) l0_1.length c0_1) := (blk_cell BK101.out 1).trans rfl
                                      have hfz31_0 := blk_frozen BK101.out 0
                                      have hfz31_1 := blk_frozen BK101.out 1
                                      have p105 : 0 ≤ ((rd l0_1 x27_2) : Int) := of_decide_eq_true (by first | (with_reducible assumption) | assumption)
                                      have q105 : (rd l0_1 x27_2) < (l0_0.length : Int) := of_decide_eq_true (by first | (with_reducible assumption) | assumption)
                                      obtain ⟨ad105, e105, hx105_0⟩ := Kd.at_int HR0_0.out (rd l0_1 x27_2) p105 q105
                                      obtain rfl : ad102 = ad105 := (by injection e105)
                                      replace hx105_0 := (HB.out.cell (World.block_lt_of_cell? w _ hx105_0)).trans hx105_0
                                      replace p105 := eq_true p105
                                      replace q105 := eq_true q105
                                      go_wp2_with (first | (go_at_call 45; (with_reducible refine (shape_solid.calls (rd l0_0 (rd l0_1 x27_2)) true _ A25.out).mono ?_); rintro e w' ⟨rfl, ⟨nd, rfl⟩⟩) | (go_at_call 45; (with_reducible refine (shape_solid.calls (rd l0_0 x27_2) false _ A27.out).mono ?_); rintro e w' ⟨rfl, ⟨nd, rfl⟩⟩; have p108 : 0 ≤ ((rd l0_1 x27_2) : Int) := of_decide_eq_true (by first | (with_reducible assumption) | assumption); have q108 : (rd l0_1 x27_2) < (l0_0.length : Int) := of_decide_eq_true (by first | (with_reducible assumption) | assumption); obtain ⟨ad108, e108, hx108_0⟩ := Kd.at_int HR0_0.out (rd l0_1 x27_2) p108 q108; obtain rfl : ad102 = ad108 := (by injection e108); replace hx108_0 := (HB.out.cell (World.block_lt_of_cell? w _ hx108_0)).trans hx108_0; replace p108 := eq_true p108; replace q108 := eq_true q108))
                                      go_roundg kj13
                                      case measure => have := HJ1.out; have := HK2.out; have := HJ13.out; omega
                                      case rel => exact ⟨(wrap64 (x27_2 + 1)), (by first | rfl | (simp; done) | (simp [*]; done)), H', ⟨by have := HJ1.out; have := HK2.out; have := HJ13.out; omega⟩, ⟨by (with_reducible repeat (first | refine blk_drewN ?_ _ | refine blk_drew ?_ | refine blk_alloc ?_ _)); exact BK101.out⟩, ⟨by repeat (first | (with_reducible first | exact HB.out | apply below_alloc | apply pw_below_drewN | apply below_drew1 | refine below_set ?_ GE101.out) | exact HB.out)⟩⟩
                                    · rw [if_neg c30] at H
                                      have c30b0 : ((rd l0_0 (rd l0_1 x27_2)) == 1) = false := beq_eq_false_iff_ne.mpr c30
                                      have c30b1 : ((rd l0_0 (rd l0_1 x27_2)) != 1) = true := bne_iff_ne.mpr c30
                                      obtain rfl := Option.some.inj H
                                      have hcz32_0 : wc.cell? ⟨gb101, 0, none⟩ = some (.slice (some ad102) l0_0.length c0_0) := (blk_cell BK101.out 0).trans rfl
                                      have hcz32_1 : wc.cell? ⟨gb101, 1, none⟩ = some (.slice (some ad103) l0_1.length c0_1) := (blk_cell BK101.out 1).trans rfl
                                      have hfz32_0 := blk_frozen BK101.out 0
                                      have hfz32_1 := blk_frozen BK101.out 1
                                      have p105 : 0 ≤ ((rd l0_1 x27_2) : Int) := of_decide_eq_true (by first | (with_reducible assumption) | assumption)
                                      have q105 : (rd l0_1 x27_2) < (l0_0.length : Int) := of_decide_eq_true (by first | (with_reducible assumption) | assumption)
                                      obtain ⟨ad105, e105, hx105_0⟩ := Kd.at_int HR0_0.out (rd l0_1 x27_2) p105 q105
                                      obtain rfl : ad102 = ad105 := (by injection e105)
                                      replace hx105_0 := (HB.out.cell (World.block_lt_of_cell? w _ hx105_0)).trans hx105_0
                                      replace p105 := eq_true p105
                                      replace q105 := eq_true q105
                                      go_wp2_with (first | (go_at_call 45; (with_reducible refine (shape_solid.calls (rd l0_0 (rd l0_1 x27_2)) true _ A25.out).mono ?_); rintro e w' ⟨rfl, ⟨nd, rfl⟩⟩) | (go_at_call 45; (with_reducible refine (shape_solid.calls (rd l0_0 x27_2) false _ A27.out).mono ?_); rintro e w' ⟨rfl, ⟨nd, rfl⟩⟩; have p108 : 0 ≤ ((rd l0_1 x27_2) : Int) := of_decide_eq_true (by first | (with_reducible assumption) | assumption); have q108 : (rd l0_1 x27_2) < (l0_0.length : Int) := of_decide_eq_true (by first | (with_reducible assumption) | assumption); obtain ⟨ad108, e108, hx108_0⟩ := Kd.at_int HR0_0.out (rd l0_1 x27_2) p108 q108; obtain rfl : ad102 = ad108 := (by injection e108); replace hx108_0 := (HB.out.cell (World.block_lt_of_cell? w _ hx108_0)).trans hx108_0; replace p108 := eq_true p108; replace q108 := eq_true q108))
                                      go_ret
                                      exact ⟨by first | rfl | (simp [errW_none, errW_some] <;> rfl) | (simp [*, errW_none, errW_some] <;> rfl), by repeat (first | (with_reducible first | exact HB.out | apply below_alloc | apply pw_below_drewN | apply below_drew1 | refine below_set ?_ GE101.out) | exact HB.out)⟩
                                · replace c26 := Bool.eq_false_iff.mpr c26
                                  subst c26
                                  have H1 : (some false) = some r := by rw [if_neg (show ¬ (false = true) by decide)] at H; exact H
                                  clear H
                                  have H := H1
                                  clear H1
                                  obtain rfl := Option.some.inj H
                                  have hcz33_0 : wc.cell? ⟨gb101, 0, none⟩ = some (.slice (some ad102) l0_0.length c0_0) := (blk_cell BK101.out 0).trans rfl
                                  have hcz33_1 : wc.cell? ⟨gb101, 1, none⟩ = some (.slice (some ad103) l0_1.length c0_1) := (blk_cell BK101.out 1).trans rfl
                                  have hfz33_0 := blk_frozen BK101.out 0
                                  have hfz33_1 := blk_frozen BK101.out 1
                                  have p105 : 0 ≤ ((rd l0_1 x27_2) : Int) := of_decide_eq_true (by first | (with_reducible assumption) | assumption)
                                  have q105 : (rd l0_1 x27_2) < (l0_0.length : Int) := of_decide_eq_true (by first | (with_reducible assumption) | assumption)
                                  obtain ⟨ad105, e105, hx105_0⟩ := Kd.at_int HR0_0.out (rd l0_1 x27_2) p105 q105
                                  obtain rfl : ad102 = ad105 := (by injection e105)
                                  replace hx105_0 := (HB.out.cell (World.block_lt_of_cell? w _ hx105_0)).trans hx105_0
                                  replace p105 := eq_true p105
                                  replace q105 := eq_true q105
                                  go_wp2_with (first | (go_at_call 45; (with_reducible refine (shape_solid.calls (rd l0_0 (rd l0_1 x27_2)) false _ A25.out).mono ?_); rintro e w' ⟨rfl, ⟨nd, rfl⟩⟩))
                                  go_ret
                                  exact ⟨by first | rfl | (simp [errW_none, errW_some] <;> rfl) | (simp [*, errW_none, errW_some] <;> rfl), by repeat (first | (with_reducible first | exact HB.out | apply below_alloc | apply pw_below_drewN | apply below_drew1 | refine below_set ?_ GE101.out) | exact HB.out)⟩
                              · rw [if_neg c24] at H
                                exact absurd H (by simp)
                            · rw [if_neg c23] at H
                              exact absurd H (by simp)
                  · rw [if_neg c13] at H
                    exact absurd H (by simp)
                · rw [if_neg c12] at H
                  exact absurd H (by simp)
              · rw [if_neg c11] at H
                exact absurd H (by simp)
            · rw [if_neg c10] at H
              have c10b0 : decide (x27_2 < (l0_0.length : Int)) = false := decide_eq_false c10
              clear c10
              have H' := Aside0.mk H
              clear H
              go_wp2
              go_loopg [7] k2 (fun kq v7 w' => ∃ (x7_3 : Int), v7 = .int .i64 x7_3 ∧ Aside0 (shape_Valid.l1 kq (l0_0.length : Int) x7_3 l0_0 l0_1 = some r) ∧ Aside0 (kq ≤ k2) ∧ Aside0 (w'.heap[gb101]? = some (.cells #[(.slice A0_0 l0_0.length c0_0), (.slice A0_1 l0_1.length c0_1)] 24 (0, 0))) ∧ Aside0 (Below w.heap.size w w'))
              case atStart => exact ⟨((-1)), (by first | rfl | (simp; done) | (simp [*]; done)), H', ⟨Nat.le_refl _⟩, ⟨by (with_reducible repeat (first | refine blk_drewN ?_ _ | refine blk_drew ?_ | refine blk_alloc ?_ _)); exact BK101.out⟩, ⟨by repeat (first | (with_reducible first | exact HB.out | apply below_alloc | apply pw_below_drewN | apply below_drew1 | refine below_set ?_ GE101.out) | exact HB.out)⟩⟩
              case round =>
                clear H'
                try clear c1
                try clear p1
                try clear q1
                try clear hx1
                try clear c2
                try clear p2
                try clear c3
                try clear c5
                try clear c5b0
                try clear c5b1
                try clear c6
                try clear c6b0
                try clear c6b1
                try clear p6
                try clear c8
                try clear c10
                try clear c10b0
                try clear p10
                try clear q10
                try clear hx10
                try clear c11
                try clear c11b0
                try clear c12
                try clear c12b0
                try clear c13
                try clear c13b0
                try clear c16
                try clear c16b0
                try clear c17
                try clear c17b0
                try clear c18
                try clear c18b0
                try clear c19
                try clear c20
                try clear c20b0
                try clear c20b1
                try clear c22
                try clear c23
                try clear c23b0
                try clear c24
                try clear c24b0
                try clear c26
                try clear c28
                try clear c30
                try clear c30b0
                try clear c30b1
                try clear hcz15_0
                try clear hcz15_1
                try clear hcz29_0
                try clear hcz29_1
                try clear hcz31_0
                try clear hcz31_1
                try clear hcz32_0
                try clear hcz32_1
                try clear hcz33_0
                try clear hcz33_1
                try clear hcz4_0
                try clear hcz4_1
                try clear hcz7_0
                try clear hcz7_1
                try clear hcz9_0
                try clear hcz9_1
                try clear hfz15_0
                try clear hfz15_1
                try clear hfz29_0
                try clear hfz29_1
                try clear hfz31_0
                try clear hfz31_1
                try clear hfz32_0
                try clear hfz32_1
                try clear hfz33_0
                try clear hfz33_1
                try clear hfz4_0
                try clear hfz4_1
                try clear hfz7_0
                try clear hfz7_1
                try clear hfz9_0
                try clear hfz9_1
                try clear hx102_0
                try clear hx103_0
                try clear hx105_0
                try clear hx108_0
                try clear p1
                try clear p10
                try clear p102
                try clear p103
                try clear p105
                try clear p108
                try clear p2
                try clear q1
                try clear q10
                try clear q102
                try clear q103
                try clear q105
                try clear q108
                obtain ⟨x7_3, rfl, HA, HK3, BK101, HB⟩ := hrel
                cases gk with
                | zero => exact absurd HA.out (by simp [shape_Valid.l1])
                | succ k3 =>
                  have H := HA.out
                  clear HA
                  simp only [shape_Valid.l1] at H
                  by_cases c34 : x7_3 < (l0_0.length : Int)
                  · rw [if_pos c34] at H
                    have c34b0 : decide (x7_3 < (l0_0.length : Int)) = true := decide_eq_true c34
                    clear c34
                    by_cases c35 : x7_3 = (-1)
                    · rw [if_pos c35] at H
                      have c35b0 : (x7_3 == (-1)) = true := beq_iff_eq.mpr c35
                      have c35b1 : (x7_3 != (-1)) = false := bne_eq_false_iff_eq.mpr c35
                      clear c35
                      replace H := Option.bind_eq_some_iff.mp H
                      obtain ⟨t109, A360, H⟩ := H
                      replace H : (if t109 < 0 then (some false) else (shape_Valid.l1 k3 (l0_0.length : Int) (wrap64 (x7_3 + 1)) l0_0 l0_1)) = some r := H
                      have A36 := Aside0.mk A360
                      clear A360
                      by_cases c37 : t109 < 0
                      · rw [if_pos c37] at H
                        have c37b0 : decide (t109 < 0) = true := decide_eq_true c37
                        clear c37
                        obtain rfl := Option.some.inj H
                        have hcz38_0 : wr.cell? ⟨gb101, 0, none⟩ = some (.slice A0_0 l0_0.length c0_0) := (blk_cell BK101.out 0).trans rfl
                        have hcz38_1 : wr.cell? ⟨gb101, 1, none⟩ = some (.slice A0_1 l0_1.length c0_1) := (blk_cell BK101.out 1).trans rfl
                        have hfz38_0 := blk_frozen BK101.out 0
                        have hfz38_1 := blk_frozen BK101.out 1
                        go_wp2_with (first | (go_at_call 30; (with_reducible refine (shape_Initial.calls k3 _ _ l0_0 _ _ l0_1 x7_3 t109 _ ?side1 ?side2 ?side3 ?side4 A36.out).mono ?_); (case side1 => repeat (first | exact (Kd.C_below HR0_0.out HB.out) | (with_reducible refine Kd.C_alloc ?_ _) | (with_reducible refine Kd.C_drewN ?_ _) | (with_reducible refine Kd.C_drew ?_))); (case side2 => exact HC0_0.out); (case side3 => repeat (first | exact (Kd.C_below HR0_1.out HB.out) | (with_reducible refine Kd.C_alloc ?_ _) | (with_reducible refine Kd.C_drewN ?_ _) | (with_reducible refine Kd.C_drew ?_))); (case side4 => exact HC0_1.out); rintro e w39 ⟨rfl, hb⟩; have n0_ := Aside0.mk (blk_below (g := gb101) (o := .cells #[.slice A0_0 l0_0.length c0_0, .slice A0_1 l0_1.length c0_1] 24 (0, 0)) (by (with_reducible repeat (first | refine blk_drewN ?_ _ | refine blk_drew ?_ | refine blk_alloc ?_ _)); exact BK101.out) hb); have n1_ := Aside0.mk (below_step (by repeat (first | (with_reducible first | exact HB.out | apply below_alloc | apply pw_below_drewN | apply below_drew1 | refine below_set ?_ GE101.out) | exact HB.out)) hb); clear BK101; clear HB; have BK101 := n0_; have HB := n1_; clear n0_ n1_; (try clear hb); (try clear hb2); (try clear hk); (try clear hi)))
                        go_ret
                        exact ⟨by first | rfl | (simp [errW_none, errW_some] <;> rfl) | (simp [*, errW_none, errW_some] <;> rfl), by repeat (first | (with_reducible first | exact HB.out | apply below_alloc | apply pw_below_drewN | apply below_drew1 | refine below_set ?_ GE101.out) | exact HB.out)⟩
                      · rw [if_neg c37] at H
                        have c37b0 : decide (t109 < 0) = false := decide_eq_false c37
                        clear c37
                        have H' := Aside0.mk H
                        clear H
                        have hcz40_0 : wr.cell? ⟨gb101, 0, none⟩ = some (.slice A0_0 l0_0.length c0_0) := (blk_cell BK101.out 0).trans rfl
                        have hcz40_1 : wr.cell? ⟨gb101, 1, none⟩ = some (.slice A0_1 l0_1.length c0_1) := (blk_cell BK101.out 1).trans rfl
                        have hfz40_0 := blk_frozen BK101.out 0
                        have hfz40_1 := blk_frozen BK101.out 1
                        go_wp2_with (first | (go_at_call 30; (with_reducible refine (shape_Initial.calls k3 _ _ l0_0 _ _ l0_1 x7_3 t109 _ ?side1 ?side2 ?side3 ?side4 A36.out).mono ?_); (case side1 => repeat (first | exact (Kd.C_below HR0_0.out HB.out) | (with_reducible refine Kd.C_alloc ?_ _) | (with_reducible refine Kd.C_drewN ?_ _) | (with_reducible refine Kd.C_drew ?_))); (case side2 => exact HC0_0.out); (case side3 => repeat (first | exact (Kd.C_below HR0_1.out HB.out) | (with_reducible refine Kd.C_alloc ?_ _) | (with_reducible refine Kd.C_drewN ?_ _) | (with_reducible refine Kd.C_drew ?_))); (case side4 => exact HC0_1.out); rintro e w41 ⟨rfl, hb⟩; have n0_ := Aside0.mk (blk_below (g := gb101) (o := .cells #[.slice A0_0 l0_0.length c0_0, .slice A0_1 l0_1.length c0_1] 24 (0, 0)) (by (with_reducible repeat (first | refine blk_drewN ?_ _ | refine blk_drew ?_ | refine blk_alloc ?_ _)); exact BK101.out) hb); have n1_ := Aside0.mk (below_step (by repeat (first | (with_reducible first | exact HB.out | apply below_alloc | apply pw_below_drewN | apply below_drew1 | refine below_set ?_ GE101.out) | exact HB.out)) hb); clear BK101; clear HB; have BK101 := n0_; have HB := n1_; clear n0_ n1_; (try clear hb); (try clear hb2); (try clear hk); (try clear hi)))
                        go_roundg k3
                        case measure => have := HJ1.out; have := HK2.out; have := HK3.out; omega
                        case rel => exact ⟨(wrap64 (x7_3 + 1)), (by first | rfl | (simp; done) | (simp [*]; done)), H', ⟨by have := HJ1.out; have := HK2.out; have := HK3.out; omega⟩, ⟨by (with_reducible repeat (first | refine blk_drewN ?_ _ | refine blk_drew ?_ | refine blk_alloc ?_ _)); exact BK101.out⟩, ⟨by repeat (first | (with_reducible first | exact HB.out | apply below_alloc | apply pw_below_drewN | apply below_drew1 | refine below_set ?_ GE101.out) | exact HB.out)⟩⟩
                    · rw [if_neg c35] at H
                      have c35b0 : (x7_3 == (-1)) = false := beq_eq_false_iff_ne.mpr c35
                      have c35b1 : (x7_3 != (-1)) = true := bne_iff_ne.mpr c35
                      replace H := Option.bind_eq_some_iff.mp H
                      obtain ⟨t110, A420, H⟩ := H
                      replace H : (if (t110.length : Int) > 0 then ((shape_Initial.f k3 l0_0 l0_1 x7_3).bind fun t113 => (if t113 < 0 then (some false) else (shape_Valid.l1 k3 (l0_0.length : Int) (wrap64 (x7_3 + 1)) l0_0 l0_1))) else (shape_Valid.l1 k3 (l0_0.length : Int) (wrap64 (x7_3 + 1)) l0_0 l0_1)) = some r := H
                      have A42 := Aside0.mk A420
                      clear A420
                      by_cases c43 : (t110.length : Int) > 0
                      · rw [if_pos c43] at H
                        have c43b0 : decide (0 < (t110.length : Int)) = true := decide_eq_true c43
                        have c43b1 : decide (0 < t110.length) = true := decide_eq_true (by omega)
                        clear c43
                        replace H := Option.bind_eq_some_iff.mp H
                        obtain ⟨t113, A440, H⟩ := H
                        replace H : (if t113 < 0 then (some false) else (shape_Valid.l1 k3 (l0_0.length : Int) (wrap64 (x7_3 + 1)) l0_0 l0_1)) = some r := H
                        have A44 := Aside0.mk A440
                        clear A440
                        by_cases c45 : t113 < 0
                        · rw [if_pos c45] at H
                          have c45b0 : decide (t113 < 0) = true := decide_eq_true c45
                          clear c45
                          obtain rfl := Option.some.inj H
                          have hcz46_0 : wr.cell? ⟨gb101, 0, none⟩ = some (.slice A0_0 l0_0.length c0_0) := (blk_cell BK101.out 0).trans rfl
                          have hcz46_1 : wr.cell? ⟨gb101, 1, none⟩ = some (.slice A0_1 l0_1.length c0_1) := (blk_cell BK101.out 1).trans rfl
                          have hfz46_0 := blk_frozen BK101.out 0
                          have hfz46_1 := blk_frozen BK101.out 1
                          go_wp2_with (first | (go_at_call 25; (with_reducible refine (shape_Kids.calls k3 _ _ l0_0 _ _ l0_1 x7_3 t110 _ ?side1 ?side2 ?side3 ?side4 A42.out).mono ?_); (case side1 => repeat (first | exact (Kd.C_below HR0_0.out HB.out) | (with_reducible refine Kd.C_alloc ?_ _) | (with_reducible refine Kd.C_drewN ?_ _) | (with_reducible refine Kd.C_drew ?_))); (case side2 => exact HC0_0.out); (case side3 => repeat (first | exact (Kd.C_below HR0_1.out HB.out) | (with_reducible refine Kd.C_alloc ?_ _) | (with_reducible refine Kd.C_drewN ?_ _) | (with_reducible refine Kd.C_drew ?_))); (case side4 => exact HC0_1.out); rintro e w47 ⟨v111, rfl, ho0, hb⟩; have n0_ := Aside0.mk (Kd.R_lower ho0 (below_size (by repeat (first | (with_reducible first | exact HB.out | apply below_alloc | apply pw_below_drewN | apply below_drew1 | refine below_set ?_ GE101.out) | exact HB.out)))); have n1_ := Aside0.mk (blk_below (g := gb101) (o := .cells #[.slice A0_0 l0_0.length c0_0, .slice A0_1 l0_1.length c0_1] 24 (0, 0)) (by (with_reducible repeat (first | refine blk_drewN ?_ _ | refine blk_drew ?_ | refine blk_alloc ?_ _)); exact BK101.out) hb); have n2_ := Aside0.mk (below_step (by repeat (first | (with_reducible first | exact HB.out | apply below_alloc | apply pw_below_drewN | apply below_drew1 | refine below_set ?_ GE101.out) | exact HB.out)) hb); clear BK101; clear HB; have HO112 := n0_; have BK101 := n1_; have HB := n2_; clear n0_ n1_ n2_; (try clear hb); (try clear hb2); (try clear hk); (try clear hi); (try clear ho0); obtain ⟨Ao48, co48, eo48⟩ := Kd.R_slice HO112.out; subst eo48; have hcz49_0 : w47.cell? ⟨gb101, 0, none⟩ = some (.slice A0_0 l0_0.length c0_0) := (blk_cell BK101.out 0).trans rfl; have hcz49_1 : w47.cell? ⟨gb101, 1, none⟩ = some (.slice A0_1 l0_1.length c0_1) := (blk_cell BK101.out 1).trans rfl; have hfz49_0 := blk_frozen BK101.out 0; have hfz49_1 := blk_frozen BK101.out 1) | (go_at_call 30; (with_reducible refine (shape_Initial.calls k3 _ _ l0_0 _ _ l0_1 x7_3 t113 _ ?side1 ?side2 ?side3 ?side4 A44.out).mono ?_); (case side1 => repeat (first | exact (Kd.C_below HR0_0.out HB.out) | (with_reducible refine Kd.C_alloc ?_ _) | (with_reducible refine Kd.C_drewN ?_ _) | (with_reducible refine Kd.C_drew ?_))); (case side2 => exact HC0_0.out); (case side3 => repeat (first | exact (Kd.C_below HR0_1.out HB.out) | (with_reducible refine Kd.C_alloc ?_ _) | (with_reducible refine Kd.C_drewN ?_ _) | (with_reducible refine Kd.C_drew ?_))); (case side4 => exact HC0_1.out); rintro e w50 ⟨rfl, hb⟩; have n0_ := Aside0.mk (Kd.R_below (by (with_reducible repeat (first | apply Kd.R_alloc | apply Kd.R_drewN | apply Kd.R_drew)); exact HO112.out) hb); have n1_ := Aside0.mk (blk_below (g := gb101) (o := .cells #[.slice A0_0 l0_0.length c0_0, .slice A0_1 l0_1.length c0_1] 24 (0, 0)) (by (with_reducible repeat (first | refine blk_drewN ?_ _ | refine blk_drew ?_ | refine blk_alloc ?_ _)); exact BK101.out) hb); have n2_ := Aside0.mk (below_step (by repeat (first | (with_reducible first | exact HB.out | apply below_alloc | apply pw_below_drewN | apply below_drew1 | refine below_set ?_ GE101.out) | exact HB.out)) hb); clear HO112; clear BK101; clear HB; have HO112 := n0_; have BK101 := n1_; have HB := n2_; clear n0_ n1_ n2_; (try clear hb); (try clear hb2); (try clear hk); (try clear hi)))
                          go_ret
                          exact ⟨by first | rfl | (simp [errW_none, errW_some] <;> rfl) | (simp [*, errW_none, errW_some] <;> rfl), by repeat (first | (with_reducible first | exact HB.out | apply below_alloc | apply pw_below_drewN | apply below_drew1 | refine below_set ?_ GE101.out) | exact HB.out)⟩
                        · rw [if_neg c45] at H
                          have c45b0 : decide (t113 < 0) = false := decide_eq_false c45
                          clear c45
                          have H' := Aside0.mk H
                          clear H
                          have hcz51_0 : wr.cell? ⟨gb101, 0, none⟩ = some (.slice A0_0 l0_0.length c0_0) := (blk_cell BK101.out 0).trans rfl
                          have hcz51_1 : wr.cell? ⟨gb101, 1, none⟩ = some (.slice A0_1 l0_1.length c0_1) := (blk_cell BK101.out 1).trans rfl
                          have hfz51_0 := blk_frozen BK101.out 0
                          have hfz51_1 := blk_frozen BK101.out 1
                          go_wp2_with (first | (go_at_call 25; (with_reducible refine (shape_Kids.calls k3 _ _ l0_0 _ _ l0_1 x7_3 t110 _ ?side1 ?side2 ?side3 ?side4 A42.out).mono ?_); (case side1 => repeat (first | exact (Kd.C_below HR0_0.out HB.out) | (with_reducible refine Kd.C_alloc ?_ _) | (with_reducible refine Kd.C_drewN ?_ _) | (with_reducible refine Kd.C_drew ?_))); (case side2 => exact HC0_0.out); (case side3 => repeat (first | exact (Kd.C_below HR0_1.out HB.out) | (with_reducible refine Kd.C_alloc ?_ _) | (with_reducible refine Kd.C_drewN ?_ _) | (with_reducible refine Kd.C_drew ?_))); (case side4 => exact HC0_1.out); rintro e w52 ⟨v111, rfl, ho0, hb⟩; have n0_ := Aside0.mk (Kd.R_lower ho0 (below_size (by repeat (first | (with_reducible first | exact HB.out | apply below_alloc | apply pw_below_drewN | apply below_drew1 | refine below_set ?_ GE101.out) | exact HB.out)))); have n1_ := Aside0.mk (blk_below (g := gb101) (o := .cells #[.slice A0_0 l0_0.length c0_0, .slice A0_1 l0_1.length c0_1] 24 (0, 0)) (by (with_reducible repeat (first | refine blk_drewN ?_ _ | refine blk_drew ?_ | refine blk_alloc ?_ _)); exact BK101.out) hb); have n2_ := Aside0.mk (below_step (by repeat (first | (with_reducible first | exact HB.out | apply below_alloc | apply pw_below_drewN | apply below_drew1 | refine below_set ?_ GE101.out) | exact HB.out)) hb); clear BK101; clear HB; have HO112 := n0_; have BK101 := n1_; have HB := n2_; clear n0_ n1_ n2_; (try clear hb); (try clear hb2); (try clear hk); (try clear hi); (try clear ho0); obtain ⟨Ao53, co53, eo53⟩ := Kd.R_slice HO112.out; subst eo53; have hcz54_0 : w52.cell? ⟨gb101, 0, none⟩ = some (.slice A0_0 l0_0.length c0_0) := (blk_cell BK101.out 0).trans rfl; have hcz54_1 : w52.cell? ⟨gb101, 1, none⟩ = some (.slice A0_1 l0_1.length c0_1) := (blk_cell BK101.out 1).trans rfl; have hfz54_0 := blk_frozen BK101.out 0; have hfz54_1 := blk_frozen BK101.out 1) | (go_at_call 30; (with_reducible refine (shape_Initial.calls k3 _ _ l0_0 _ _ l0_1 x7_3 t113 _ ?side1 ?side2 ?side3 ?side4 A44.out).mono ?_); (case side1 => repeat (first | exact (Kd.C_below HR0_0.out HB.out) | (with_reducible refine Kd.C_alloc ?_ _) | (with_reducible refine Kd.C_drewN ?_ _) | (with_reducible refine Kd.C_drew ?_))); (case side2 => exact HC0_0.out); (case side3 => repeat (first | exact (Kd.C_below HR0_1.out HB.out) | (with_reducible refine Kd.C_alloc ?_ _) | (with_reducible refine Kd.C_drewN ?_ _) | (with_reducible refine Kd.C_drew ?_))); (case side4 => exact HC0_1.out); rintro e w55 ⟨rfl, hb⟩; have n0_ := Aside0.mk (Kd.R_below (by (with_reducible repeat (first | apply Kd.R_alloc | apply Kd.R_drewN | apply Kd.R_drew)); exact HO112.out) hb); have n1_ := Aside0.mk (blk_below (g := gb101) (o := .cells #[.slice A0_0 l0_0.length c0_0, .slice A0_1 l0_1.length c0_1] 24 (0, 0)) (by (with_reducible repeat (first | refine blk_drewN ?_ _ | refine blk_drew ?_ | refine blk_alloc ?_ _)); exact BK101.out) hb); have n2_ := Aside0.mk (below_step (by repeat (first | (with_reducible first | exact HB.out | apply below_alloc | apply pw_below_drewN | apply below_drew1 | refine below_set ?_ GE101.out) | exact HB.out)) hb); clear HO112; clear BK101; clear HB; have HO112 := n0_; have BK101 := n1_; have HB := n2_; clear n0_ n1_ n2_; (try clear hb); (try clear hb2); (try clear hk); (try clear hi)))
                          go_roundg k3
                          case measure => have := HJ1.out; have := HK2.out; have := HK3.out; omega
                          case rel => exact ⟨(wrap64 (x7_3 + 1)), (by first | rfl | (simp; done) | (simp [*]; done)), H', ⟨by have := HJ1.out; have := HK2.out; have := HK3.out; omega⟩, ⟨by (with_reducible repeat (first | refine blk_drewN ?_ _ | refine blk_drew ?_ | refine blk_alloc ?_ _)); exact BK101.out⟩, ⟨by repeat (first | (with_reducible first | exact HB.out | apply below_alloc | apply pw_below_drewN | apply below_drew1 | refine below_set ?_ GE101.out) | exact HB.out)⟩⟩
                      · rw [if_neg c43] at H
                        have c43b0 : decide (0 < (t110.length : Int)) = false := decide_eq_false c43
                        have c43b1 : decide (0 < t110.length) = false := decide_eq_false (by omega)
                        clear c43
                        have H' := Aside0.mk H
                        clear H
                        have hcz56_0 : wr.cell? ⟨gb101, 0, none⟩ = some (.slice A0_0 l0_0.length c0_0) := (blk_cell BK101.out 0).trans rfl
                        have hcz56_1 : wr.cell? ⟨gb101, 1, none⟩ = some (.slice A0_1 l0_1.length c0_1) := (blk_cell BK101.out 1).trans rfl
                        have hfz56_0 := blk_frozen BK101.out 0
                        have hfz56_1 := blk_frozen BK101.out 1
                        go_wp2_with (first | (go_at_call 25; (with_reducible refine (shape_Kids.calls k3 _ _ l0_0 _ _ l0_1 x7_3 t110 _ ?side1 ?side2 ?side3 ?side4 A42.out).mono ?_); (case side1 => repeat (first | exact (Kd.C_below HR0_0.out HB.out) | (with_reducible refine Kd.C_alloc ?_ _) | (with_reducible refine Kd.C_drewN ?_ _) | (with_reducible refine Kd.C_drew ?_))); (case side2 => exact HC0_0.out); (case side3 => repeat (first | exact (Kd.C_below HR0_1.out HB.out) | (with_reducible refine Kd.C_alloc ?_ _) | (with_reducible refine Kd.C_drewN ?_ _) | (with_reducible refine Kd.C_drew ?_))); (case side4 => exact HC0_1.out); rintro e w57 ⟨v111, rfl, ho0, hb⟩; have n0_ := Aside0.mk (Kd.R_lower ho0 (below_size (by repeat (first | (with_reducible first | exact HB.out | apply below_alloc | apply pw_below_drewN | apply below_drew1 | refine below_set ?_ GE101.out) | exact HB.out)))); have n1_ := Aside0.mk (blk_below (g := gb101) (o := .cells #[.slice A0_0 l0_0.length c0_0, .slice A0_1 l0_1.length c0_1] 24 (0, 0)) (by (with_reducible repeat (first | refine blk_drewN ?_ _ | refine blk_drew ?_ | refine blk_alloc ?_ _)); exact BK101.out) hb); have n2_ := Aside0.mk (below_step (by repeat (first | (with_reducible first | exact HB.out | apply below_alloc | apply pw_below_drewN | apply below_drew1 | refine below_set ?_ GE101.out) | exact HB.out)) hb); clear BK101; clear HB; have HO112 := n0_; have BK101 := n1_; have HB := n2_; clear n0_ n1_ n2_; (try clear hb); (try clear hb2); (try clear hk); (try clear hi); (try clear ho0); obtain ⟨Ao58, co58, eo58⟩ := Kd.R_slice HO112.out; subst eo58))
                        go_roundg k3
                        case measure => have := HJ1.out; have := HK2.out; have := HK3.out; omega
                        case rel => exact ⟨(wrap64 (x7_3 + 1)), (by first | rfl | (simp; done) | (simp [*]; done)), H', ⟨by have := HJ1.out; have := HK2.out; have := HK3.out; omega⟩, ⟨by (with_reducible repeat (first | refine blk_drewN ?_ _ | refine blk_drew ?_ | refine blk_alloc ?_ _)); exact BK101.out⟩, ⟨by repeat (first | (with_reducible first | exact HB.out | apply below_alloc | apply pw_below_drewN | apply below_drew1 | refine below_set ?_ GE101.out) | exact HB.out)⟩⟩
                  · rw [if_neg c34] at H
                    have c34b0 : decide (x7_3 < (l0_0.length : Int)) = false := decide_eq_false c34
                    clear c34
                    obtain rfl := Option.some.inj H
                    go_wp2
                    go_ret
                    exact ⟨by first | rfl | (simp [errW_none, errW_some] <;> rfl) | (simp [*, errW_none, errW_some] <;> rfl), by repeat (first | (with_reducible first | exact HB.out | apply below_alloc | apply pw_below_drewN | apply below_drew1 | refine below_set ?_ GE101.out) | exact HB.out)⟩

end Go.Proofs.Ytnomeokicfpidaa.Q
-- printed by myprint.py: a program of this repo over the kit's print
namespace Go.Proofs.Ytnomeokicfpidaa.Q
open Go.RowKit Go.Proofs.YtnomeokicfpidaaW.PrintWords Go.Proofs.YtnomeokicfpidaaW.PrintLast Go.Proofs.YtnomeokicfpidaaW.PrintMore
attribute [local go_sem] max2_int min2_int max_two min_two max_three min_three max_four min_four   -- for this text's walks alone
set_option linter.unusedVariables false
set_option linter.unusedSimpArgs false

/-! ### imprimaturref06_Shape_Initial: function 47 -/
def imprimaturref06_Shape_Initial.l0 : Nat → List Int → Int → Int → List Int → List Int → Option (Int)
  | 0, _, _, _, _, _ => none
  | k + 1, x9, x10, x11, x102000, x102001 => if x11 < x10 then (if 0 ≤ x11 then (if x11 < (x9.length : Int) then (if 0 ≤ (rd x9 x11) then (if (rd x9 x11) < (x102000.length : Int) then (if (rd x102000 (rd x9 x11)) ≤ 2 then (some (rd x9 x11)) else (imprimaturref06_Shape_Initial.l0 k x9 x10 (wrap64 (x11 + 1)) x102000 x102001)) else (none)) else (none)) else (none)) else (none)) else (some (-1))
def imprimaturref06_Shape_Initial.f (k : Nat) (l0_0 : List Int) (l0_1 : List Int) (a1 : Int) : Option (Int) := (imprimaturref06_Shape_Kids.f k l0_0 l0_1 a1).bind fun t102 => (imprimaturref06_Shape_Initial.l0 k t102 (t102.length : Int) 0 l0_0 l0_1)
theorem imprimaturref06_Shape_Initial.mono_l : ∀ k, (∀ y0 y1 y2 y3 y4, LeO (imprimaturref06_Shape_Initial.l0 k y0 y1 y2 y3 y4) (imprimaturref06_Shape_Initial.l0 (k + 1) y0 y1 y2 y3 y4))
  | 0 => fun _ _ _ _ _ r h => by simp [imprimaturref06_Shape_Initial.l0] at h
  | k + 1 => by
    have ih0 := imprimaturref06_Shape_Initial.mono_l k
    · intro y0 y1 y2 y3 y4
      unfold imprimaturref06_Shape_Initial.l0
      repeat' first
      | (with_reducible exact ih0 _ _ _ _ _)
      | (with_reducible exact imprimaturref06_Shape_Kids.mono _ _ _ _)
      | (with_reducible exact LeO.refl _)
      | (with_reducible exact LeO.none _)
      | (with_reducible refine LeO.ite ?_ ?_)
      | (with_reducible refine LeO.bind ?_ (fun _ => ?_))
      | exact ih0 _ _ _ _ _
      | exact imprimaturref06_Shape_Kids.mono _ _ _ _
      | exact LeO.none _
      | refine LeO.ite ?_ ?_
      | refine LeO.bind ?_ (fun _ => ?_)
theorem imprimaturref06_Shape_Initial.mono : ∀ a0 a1 a2 k, LeO (imprimaturref06_Shape_Initial.f k a0 a1 a2) (imprimaturref06_Shape_Initial.f (k + 1) a0 a1 a2) := by
  intro a0 a1 a2 k
  have ih0 := imprimaturref06_Shape_Initial.mono_l k
  unfold imprimaturref06_Shape_Initial.f
  repeat' first
      | (with_reducible exact ih0 _ _ _ _ _)
      | (with_reducible exact imprimaturref06_Shape_Kids.mono _ _ _ _)
      | (with_reducible exact LeO.refl _)
      | (with_reducible exact LeO.none _)
      | (with_reducible refine LeO.ite ?_ ?_)
      | (with_reducible refine LeO.bind ?_ (fun _ => ?_))
      | exact ih0 _ _ _ _ _
      | exact imprimaturref06_Shape_Kids.mono _ _ _ _
      | exact LeO.none _
      | refine LeO.ite ?_ ?_
      | refine LeO.bind ?_ (fun _ => ?_)
set_option maxHeartbeats 8000000 in
set_option maxRecDepth 100000 in
theorem imprimaturref06_Shape_Initial.calls (k : Nat) (A0_0 : Option Addr) (c0_0 : Nat) (l0_0 : List Int) (A0_1 : Option Addr) (c0_1 : Nat) (l0_1 : List Int) (a1 : Int) (r : Int) (w : World) (hr0_0 : Kd.C (Kd.int .i64) w A0_0 l0_0.length l0_0) (hc0_0 : l0_0.length ≤ c0_0) (hr0_1 : Kd.C (Kd.int .i64) w A0_1 l0_1.length l0_1) (hc0_1 : l0_1.length ≤ c0_1) (h : imprimaturref06_Shape_Initial.f k l0_0 l0_1 a1 = some r) :
    Calls Try.prog 47 #[.agg #[.slice A0_0 l0_0.length c0_0, .slice A0_1 l0_1.length c0_1], .int .i64 a1] w fun e w' => e = .returned (.int .i64 r) ∧ Below w.heap.size w w' := by
  have hu25 := Try.underlying25
  have HR0_0 := Aside0.mk hr0_0
  have HC0_0 := Aside0.mk hc0_0
  clear hr0_0 hc0_0
  have HR0_1 := Aside0.mk hr0_1
  have HC0_1 := Aside0.mk hc0_1
  clear hr0_1 hc0_1
  have HB := Aside0.mk (Below.refl w.heap.size w)
  have H : ((imprimaturref06_Shape_Kids.f k l0_0 l0_1 a1).bind fun t102 => (imprimaturref06_Shape_Initial.l0 k t102 (t102.length : Int) 0 l0_0 l0_1)) = some r := h
  clear h
  replace H := Option.bind_eq_some_iff.mp H
  obtain ⟨t102, A30, H⟩ := H
  replace H : (imprimaturref06_Shape_Initial.l0 k t102 (t102.length : Int) 0 l0_0 l0_1) = some r := H
  have A3 := Aside0.mk A30
  clear A30
  have H' := Aside0.mk H
  clear H
  go_enter Try.func47, Try.ntmps47
  go_wp2_with (first | ((with_reducible refine gate_dst (N := 2) rfl ?_); refine box_event ?hg (N := 2) ?hd (cs := #[.slice A0_0 l0_0.length c0_0, .slice A0_1 l0_1.length c0_1]) (t := 25) ?hr ?_; (case hd => rfl); (case hg => rfl); (case hr => first | (go_simp; done) | (go_simp; rfl)); intro gb101 hg w4 hbox hb; have n0_ := Aside0.mk (below_step (by repeat (first | (with_reducible first | exact HB.out | apply below_alloc | apply pw_below_drewN | apply below_drew1) | exact HB.out)) hb); have n1_ := Aside0.mk (hbox); have n2_ := Aside0.mk ((by rw [hg]; exact (below_size (by repeat (first | (with_reducible first | exact HB.out | apply below_alloc | apply pw_below_drewN | apply below_drew1) | exact HB.out))) : w.heap.size ≤ gb101)); have n3_ := Aside0.mk ((by rw [hg]; exact (below_size (by repeat (first | (with_reducible first | exact HB.out | apply below_alloc | apply pw_below_drewN | apply below_drew1) | exact HB.out))) : w.heap.size ≤ gb101)); clear HB; have HB := n0_; have BK101 := n1_; have GW101 := n2_; have GE101 := n3_; clear n0_ n1_ n2_ n3_; clear hb hbox hg; have hcz5_0 : w4.cell? ⟨gb101, 0, none⟩ = some (.slice A0_0 l0_0.length c0_0) := (blk_cell BK101.out 0).trans rfl; have hcz5_1 : w4.cell? ⟨gb101, 1, none⟩ = some (.slice A0_1 l0_1.length c0_1) := (blk_cell BK101.out 1).trans rfl; have hfz5_0 := blk_frozen BK101.out 0; have hfz5_1 := blk_frozen BK101.out 1) | ((with_reducible refine gate_callee (f := 46) rfl ?_); refine goesL_ (some 9) rfl rfl Try.func46 (by kernel_rfl) rfl #[.agg #[.slice A0_0 l0_0.length c0_0, .slice A0_1 l0_1.length c0_1], .int .i64 a1] rfl (by (try simp only [List.map_toArray, List.map_cons, List.map_nil]); first | done | rfl | (simp only [List.length_drop, List.length_take]; rfl)) ?_; (with_reducible refine (imprimaturref06_Shape_Kids.calls k _ _ l0_0 _ _ l0_1 a1 t102 _ ?side1 ?side2 ?side3 ?side4 A3.out).mono ?_); (case side1 => repeat (first | exact (Kd.C_below HR0_0.out HB.out) | (with_reducible refine Kd.C_alloc ?_ _) | (with_reducible refine Kd.C_drewN ?_ _) | (with_reducible refine Kd.C_drew ?_))); (case side2 => exact HC0_0.out); (case side3 => repeat (first | exact (Kd.C_below HR0_1.out HB.out) | (with_reducible refine Kd.C_alloc ?_ _) | (with_reducible refine Kd.C_drewN ?_ _) | (with_reducible refine Kd.C_drew ?_))); (case side4 => exact HC0_1.out); rintro e w6 ⟨v103, rfl, ho0, hb⟩; refine ⟨_, rfl, ?_⟩; have n0_ := Aside0.mk (Kd.R_lower ho0 (below_size (by repeat (first | (with_reducible first | exact HB.out | apply below_alloc | apply pw_below_drewN | apply below_drew1 | refine below_set ?_ GE101.out) | exact HB.out)))); have n1_ := Aside0.mk (blk_below (g := gb101) (o := .cells #[.slice A0_0 l0_0.length c0_0, .slice A0_1 l0_1.length c0_1] 25 (0, 0)) (by (with_reducible repeat (first | refine blk_drewN ?_ _ | refine blk_drew ?_ | refine blk_alloc ?_ _)); exact BK101.out) hb); have n2_ := Aside0.mk (below_step (by repeat (first | (with_reducible first | exact HB.out | apply below_alloc | apply pw_below_drewN | apply below_drew1 | refine below_set ?_ GE101.out) | exact HB.out)) hb); clear BK101; clear HB; have HO104 := n0_; have BK101 := n1_; have HB := n2_; clear n0_ n1_ n2_; (try clear hb); (try clear hb2); (try clear hk); (try clear hi); (try clear ho0); obtain ⟨Ao7, co7, eo7⟩ := Kd.R_slice HO104.out; subst eo7))
  go_loopg [11] k (fun kq v11 w' => ∃ (x11_1 : Int), v11 = .int .i64 x11_1 ∧ Aside0 (imprimaturref06_Shape_Initial.l0 kq t102 (t102.length : Int) x11_1 l0_0 l0_1 = some r) ∧ Aside0 (kq ≤ k) ∧ Aside0 (Kd.R (Kd.int .i64) 3 w' w.heap.size (fun _ => True) (.slice Ao7 t102.length co7) t102) ∧ Aside0 (w'.heap[gb101]? = some (.cells #[(.slice A0_0 l0_0.length c0_0), (.slice A0_1 l0_1.length c0_1)] 25 (0, 0))) ∧ Aside0 (Below w.heap.size w w'))
  case atStart => exact ⟨(0), (by first | rfl | (simp; done) | (simp [*]; done)), H', ⟨Nat.le_refl _⟩, ⟨by (with_reducible repeat (first | apply Kd.R_alloc | apply Kd.R_drewN | apply Kd.R_drew)); exact HO104.out⟩, ⟨by (with_reducible repeat (first | refine blk_drewN ?_ _ | refine blk_drew ?_ | refine blk_alloc ?_ _)); exact BK101.out⟩, ⟨by repeat (first | (with_reducible first | exact HB.out | apply below_alloc | apply pw_below_drewN | apply below_drew1 | refine below_set ?_ GE101.out) | exact HB.out)⟩⟩
  case round =>
    clear H'
    try clear p2
    try clear c4
    try clear hcz5_0
    try clear hcz5_1
    try clear hfz5_0
    try clear hfz5_1
    obtain ⟨x11_1, rfl, HA, HK1, HO_9, BK101, HB⟩ := hrel
    cases gk with
    | zero => exact absurd HA.out (by simp [imprimaturref06_Shape_Initial.l0])
    | succ k1 =>
      have H := HA.out
      clear HA
      simp only [imprimaturref06_Shape_Initial.l0] at H
      by_cases c8 : x11_1 < (t102.length : Int)
      · rw [if_pos c8] at H
        have c8b0 : decide (x11_1 < (t102.length : Int)) = true := decide_eq_true c8
        clear c8
        by_cases c9 : 0 ≤ x11_1
        · rw [if_pos c9] at H
          have c9b0 : decide (0 ≤ x11_1) = true := decide_eq_true c9
          clear c9
          by_cases c10 : x11_1 < (t102.length : Int)
          · rw [if_pos c10] at H
            have c10b0 : decide (x11_1 < (t102.length : Int)) = true := decide_eq_true c10
            clear c10
            by_cases c11 : 0 ≤ (rd t102 x11_1)
            · rw [if_pos c11] at H
              have c11b0 : decide (0 ≤ (rd t102 x11_1)) = true := decide_eq_true c11
              clear c11
              by_cases c12 : (rd t102 x11_1) < (l0_0.length : Int)
              · rw [if_pos c12] at H
                have c12b0 : decide ((rd t102 x11_1) < (l0_0.length : Int)) = true := decide_eq_true c12
                clear c12
                by_cases c13 : (rd l0_0 (rd t102 x11_1)) ≤ 2
                · rw [if_pos c13] at H
                  have c13b0 : decide ((rd l0_0 (rd t102 x11_1)) ≤ 2) = true := decide_eq_true c13
                  clear c13
                  obtain rfl := Option.some.inj H
                  have p105 : 0 ≤ (x11_1 : Int) := of_decide_eq_true (by first | (with_reducible assumption) | assumption)
                  have q105 : x11_1 < (t102.length : Int) := of_decide_eq_true (by first | (with_reducible assumption) | assumption)
                  obtain ⟨ad105, e105, hx105_0⟩ := Kd.at_int (Kd.R_reads' HO_9.out).2.2 x11_1 p105 q105
                  cases e105
                  replace p105 := eq_true p105
                  replace q105 := eq_true q105
                  have hcz14_0 : wr.cell? ⟨gb101, 0, none⟩ = some (.slice A0_0 l0_0.length c0_0) := (blk_cell BK101.out 0).trans rfl
                  have hcz14_1 : wr.cell? ⟨gb101, 1, none⟩ = some (.slice A0_1 l0_1.length c0_1) := (blk_cell BK101.out 1).trans rfl
                  have hfz14_0 := blk_frozen BK101.out 0
                  have hfz14_1 := blk_frozen BK101.out 1
                  have p106 : 0 ≤ ((rd t102 x11_1) : Int) := of_decide_eq_true (by first | (with_reducible assumption) | assumption)
                  have q106 : (rd t102 x11_1) < (l0_0.length : Int) := of_decide_eq_true (by first | (with_reducible assumption) | assumption)
                  obtain ⟨ad106, e106, hx106_0⟩ := Kd.at_int HR0_0.out (rd t102 x11_1) p106 q106
                  cases e106
                  replace hx106_0 := (HB.out.cell (World.block_lt_of_cell? w _ hx106_0)).trans hx106_0
                  replace p106 := eq_true p106
                  replace q106 := eq_true q106
                  go_wp2
                  go_ret
                  exact ⟨by first | rfl | (simp [errW_none, errW_some] <;> rfl) | (simp [*, errW_none, errW_some] <;> rfl), by repeat (first | (with_reducible first | exact HB.out | apply below_alloc | apply pw_below_drewN | apply below_drew1 | refine below_set ?_ GE101.out) | exact HB.out)⟩
                · rw [if_neg c13] at H
                  have c13b0 : decide ((rd l0_0 (rd t102 x11_1)) ≤ 2) = false := decide_eq_false c13
                  clear c13
                  have H' := Aside0.mk H
                  clear H
                  have p105 : 0 ≤ (x11_1 : Int) := of_decide_eq_true (by first | (with_reducible assumption) | assumption)
                  have q105 : x11_1 < (t102.length : Int) := of_decide_eq_true (by first | (with_reducible assumption) | assumption)
                  obtain ⟨ad105, e105, hx105_0⟩ := Kd.at_int (Kd.R_reads' HO_9.out).2.2 x11_1 p105 q105
                  cases e105
                  replace p105 := eq_true p105
                  replace q105 := eq_true q105
                  have hcz15_0 : wr.cell? ⟨gb101, 0, none⟩ = some (.slice A0_0 l0_0.length c0_0) := (blk_cell BK101.out 0).trans rfl
                  have hcz15_1 : wr.cell? ⟨gb101, 1, none⟩ = some (.slice A0_1 l0_1.length c0_1) := (blk_cell BK101.out 1).trans rfl
                  have hfz15_0 := blk_frozen BK101.out 0
                  have hfz15_1 := blk_frozen BK101.out 1
                  have p106 : 0 ≤ ((rd t102 x11_1) : Int) := of_decide_eq_true (by first | (with_reducible assumption) | assumption)
                  have q106 : (rd t102 x11_1) < (l0_0.length : Int) := of_decide_eq_true (by first | (with_reducible assumption) | assumption)
                  obtain ⟨ad106, e106, hx106_0⟩ := Kd.at_int HR0_0.out (rd t102 x11_1) p106 q106
                  cases e106
                  replace hx106_0 := (HB.out.cell (World.block_lt_of_cell? w _ hx106_0)).trans hx106_0
                  replace p106 := eq_true p106
                  replace q106 := eq_true q106
                  go_wp2
                  go_roundg k1
                  case measure => have := HK1.out; omega
                  case rel => exact ⟨(wrap64 (x11_1 + 1)), (by first | rfl | (simp; done) | (simp [*]; done)), H', ⟨by have := HK1.out; omega⟩, ⟨by (with_reducible repeat (first | apply Kd.R_alloc | apply Kd.R_drewN | apply Kd.R_drew)); exact HO_9.out⟩, ⟨by (with_reducible repeat (first | refine blk_drewN ?_ _ | refine blk_drew ?_ | refine blk_alloc ?_ _)); exact BK101.out⟩, ⟨by repeat (first | (with_reducible first | exact HB.out | apply below_alloc | apply pw_below_drewN | apply below_drew1 | refine below_set ?_ GE101.out) | exact HB.out)⟩⟩
              · rw [if_neg c12] at H
                exact absurd H (by simp)
            · rw [if_neg c11] at H
              exact absurd H (by simp)
          · rw [if_neg c10] at H
            exact absurd H (by simp)
        · rw [if_neg c9] at H
          exact absurd H (by simp)
      · rw [if_neg c8] at H
        have c8b0 : decide (x11_1 < (t102.length : Int)) = false := decide_eq_false c8
        clear c8
        obtain rfl := Option.some.inj H
        go_wp2
        go_ret
        exact ⟨by first | rfl | (simp [errW_none, errW_some] <;> rfl) | (simp [*, errW_none, errW_some] <;> rfl), by repeat (first | (with_reducible first | exact HB.out | apply below_alloc | apply pw_below_drewN | apply below_drew1 | refine below_set ?_ GE101.out) | exact HB.out)⟩

end Go.Proofs.Ytnomeokicfpidaa.Q
