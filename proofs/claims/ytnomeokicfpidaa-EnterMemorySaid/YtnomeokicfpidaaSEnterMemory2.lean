-- merged and slimmed by slim.py (a program of this repo)
import Derived.Test.YtnomeokicfpidaaSEnterMemory0
import Derived.Test.YtnomeokicfpidaaSEnterMemory1
import Derived.Lib.BitFns
import Derived.Test.YtnomeokicfpidaaWMore
import Derived.Test.YtnomeokicfpidaaWNEv
import Derived.Deep.RegionHeld3
import Derived.Outline
import Derived.StillTailTactics
namespace Go.Proofs.Ytnomeokicfpidaa.Q
open Go.RowKit Go.Proofs.YtnomeokicfpidaaW.PrintWords Go.Proofs.YtnomeokicfpidaaW.PrintLast Go.Proofs.YtnomeokicfpidaaW.PrintMore
attribute [local go_sem] max2_int min2_int max_two min_two max_three min_three max_four min_four
set_option linter.unusedVariables false
set_option linter.unusedSimpArgs false
def enter_Leave.l0 : Nat → List Int → List Int → Int → Int → Option (List Int)
 | 0, _, _, _, _ => none
 | k + 1, x7, x8, x15, x16 => if x16 < x15 then (if 0 ≤ (wrap64 ((wrap64 ((x8.length : Int) - 1)) - x16)) then (if (wrap64 ((wrap64 ((x8.length : Int) - 1)) - x16)) < (x8.length : Int) then (if x7.length < 17592186044416 then (enter_Leave.l0 k (x7 ++ [rd x8 (wrap64 ((wrap64 ((x8.length : Int) - 1)) - x16))]) x8 x15 (wrap64 (x16 + 1))) else (none)) else (none)) else (none)) else (some x7)
def enter_Leave.f (k : Nat) (l0_0 : List Int) (l0_1 : List Int) (a1 : Int) (a2 : Int) : Option (List Int) := (enter_below.f k l0_0 l0_1 a1 a2).bind fun t102 => (enter_Leave.l0 k ([] : List Int) t102 (t102.length : Int) 0)
set_option maxHeartbeats 8000000 in
set_option maxRecDepth 100000 in
theorem enter_Leave.calls (k : Nat) (A0_0 : Option Addr) (c0_0 : Nat) (l0_0 : List Int) (A0_1 : Option Addr) (c0_1 : Nat) (l0_1 : List Int) (a1 : Int) (a2 : Int) (r : List Int) (w : World) (hr0_0 : Kd.C (Kd.int .i64) w A0_0 l0_0.length l0_0) (hc0_0 : l0_0.length ≤ c0_0) (hr0_1 : Kd.C (Kd.int .i64) w A0_1 l0_1.length l0_1) (hc0_1 : l0_1.length ≤ c0_1) (h : enter_Leave.f k l0_0 l0_1 a1 a2 = some r) :
  Calls Try.prog 23 #[.agg #[.slice A0_0 l0_0.length c0_0, .slice A0_1 l0_1.length c0_1], .int .u32 a1, .int .i64 a2] w fun e w' => ∃ v0_ : Value, e = .returned (v0_) ∧ Kd.R (Kd.int .i64) 3 w' w.heap.size (fun _ => True) v0_ r ∧ Below w.heap.size w w' := by
 have hu24 := Try.underlying24
 have HR0_0 := Aside0.mk hr0_0
 have HC0_0 := Aside0.mk hc0_0
 clear hr0_0 hc0_0
 have HR0_1 := Aside0.mk hr0_1
 have HC0_1 := Aside0.mk hc0_1
 clear hr0_1 hc0_1
 have HB := Aside0.mk (Below.refl w.heap.size w)
 have H : ((enter_below.f k l0_0 l0_1 a1 a2).bind fun t102 => (enter_Leave.l0 k ([] : List Int) t102 (t102.length : Int) 0)) = some r := h
 clear h
 replace H := Option.bind_eq_some_iff.mp H
 obtain ⟨t102, A40, H⟩ := H
 replace H : (enter_Leave.l0 k ([] : List Int) t102 (t102.length : Int) 0) = some r := H
 have A4 := Aside0.mk A40
 clear A40
 have H' := Aside0.mk H
 clear H
 go_enter Try.func23, Try.ntmps23
 go_wp2_with (first | ((with_reducible refine gate_dst (N := 3) rfl ?_); refine box_event ?hg (N := 3) ?hd (cs := #[.slice A0_0 l0_0.length c0_0, .slice A0_1 l0_1.length c0_1]) (t := 24) ?hr ?_; (case hd => rfl); (case hg => rfl); (case hr => first | (go_simp; done) | (go_simp; rfl)); intro gb101 hg w5 hbox hb; have n0_ := Aside0.mk (below_step (by repeat (first | (with_reducible first | exact HB.out | apply below_alloc | apply pw_below_drewN | apply below_drew1) | exact HB.out)) hb); have n1_ := Aside0.mk (hbox); have n2_ := Aside0.mk ((by rw [hg]; exact (below_size (by repeat (first | (with_reducible first | exact HB.out | apply below_alloc | apply pw_below_drewN | apply below_drew1) | exact HB.out))) : w.heap.size ≤ gb101)); have n3_ := Aside0.mk ((by rw [hg]; exact (below_size (by repeat (first | (with_reducible first | exact HB.out | apply below_alloc | apply pw_below_drewN | apply below_drew1) | exact HB.out))) : w.heap.size ≤ gb101)); clear HB; have HB := n0_; have BK101 := n1_; have GW101 := n2_; have GE101 := n3_; clear n0_ n1_ n2_ n3_; clear hb hbox hg; have hcz6_0 : w5.cell? ⟨gb101, 0, none⟩ = some (.slice A0_0 l0_0.length c0_0) := (blk_cell BK101.out 0).trans rfl; have hcz6_1 : w5.cell? ⟨gb101, 1, none⟩ = some (.slice A0_1 l0_1.length c0_1) := (blk_cell BK101.out 1).trans rfl; have hfz6_0 := blk_frozen BK101.out 0; have hfz6_1 := blk_frozen BK101.out 1) | ((with_reducible refine gate_callee (f := 49) rfl ?_); refine goesL_ (some 13) rfl rfl Try.func49 (by kernel_rfl) rfl #[.agg #[.slice A0_0 l0_0.length c0_0, .slice A0_1 l0_1.length c0_1], .int .u32 a1, .int .i64 a2] rfl (by (try simp only [List.map_toArray, List.map_cons, List.map_nil]); first | done | rfl | (simp only [List.length_drop, List.length_take]; rfl)) ?_; (with_reducible refine (enter_below.calls k _ _ l0_0 _ _ l0_1 a1 a2 t102 _ ?side1 ?side2 ?side3 ?side4 A4.out).mono ?_); (case side1 => repeat (first | exact (Kd.C_below HR0_0.out HB.out) | (with_reducible refine Kd.C_alloc ?_ _) | (with_reducible refine Kd.C_drewN ?_ _) | (with_reducible refine Kd.C_drew ?_))); (case side2 => exact HC0_0.out); (case side3 => repeat (first | exact (Kd.C_below HR0_1.out HB.out) | (with_reducible refine Kd.C_alloc ?_ _) | (with_reducible refine Kd.C_drewN ?_ _) | (with_reducible refine Kd.C_drew ?_))); (case side4 => exact HC0_1.out); rintro e w7 ⟨v103, rfl, ho0, hb⟩; refine ⟨_, rfl, ?_⟩; have n0_ := Aside0.mk (Kd.R_lower ho0 (below_size (by repeat (first | (with_reducible first | exact HB.out | apply below_alloc | apply pw_below_drewN | apply below_drew1 | refine below_set ?_ GE101.out) | exact HB.out)))); have n1_ := Aside0.mk (blk_below (g := gb101) (o := .cells #[.slice A0_0 l0_0.length c0_0, .slice A0_1 l0_1.length c0_1] 24 (0, 0)) (by (with_reducible repeat (first | refine blk_drewN ?_ _ | refine blk_drew ?_ | refine blk_alloc ?_ _)); exact BK101.out) hb); have n2_ := Aside0.mk (below_step (by repeat (first | (with_reducible first | exact HB.out | apply below_alloc | apply pw_below_drewN | apply below_drew1 | refine below_set ?_ GE101.out) | exact HB.out)) hb); clear BK101; clear HB; have HO104 := n0_; have BK101 := n1_; have HB := n2_; clear n0_ n1_ n2_; (try clear hb); (try clear hb2); (try clear hk); (try clear hi); (try clear ho0); obtain ⟨Ao8, co8, eo8⟩ := Kd.R_slice HO104.out; subst eo8))
 go_loopg [7, 16] k (fun kq v7 v16 w' => ∃ (x7_1 : List Int) (x16_1 : Int), v16 = .int .i64 x16_1 ∧ Aside0 (enter_Leave.l0 kq x7_1 t102 (t102.length : Int) x16_1 = some r) ∧ Aside0 (kq ≤ k) ∧ Aside0 (Kd.R (Kd.int .i64) 3 w' w.heap.size (fun k_ => some k_ ≠ ((.slice Ao8 t102.length co8) : Value).ownBlock) v7 x7_1) ∧ Aside0 (Kd.R (Kd.int .i64) 3 w' w.heap.size (fun k_ => some k_ ≠ (v7 : Value).ownBlock) (.slice Ao8 t102.length co8) t102) ∧ Aside0 (w'.heap[gb101]? = some (.cells #[(.slice A0_0 l0_0.length c0_0), (.slice A0_1 l0_1.length c0_1)] 24 (0, 0))) ∧ Aside0 (Below w.heap.size w w'))
 case atStart => exact ⟨(([] : List Int)), (0), (by first | rfl | (simp; done) | (simp [*]; done)), H', ⟨Nat.le_refl _⟩, ⟨by first | exact Kd.R_nil _ _ _ _ _ | exact Kd.N_nil _ _ _ _ _ | exact Kd.V_nil _ _ _ _ _ | exact Kd.Q_nil _ _ _ _ _ | exact Kd.S_nil _ _ _ _ _⟩, ⟨by (with_reducible repeat (first | apply Kd.R_alloc | apply Kd.R_drewN | apply Kd.R_drew)); exact Kd.R_mono HO104.out (fun _ hk => (by simp [Value.ownBlock]))⟩, ⟨by (with_reducible repeat (first | refine blk_drewN ?_ _ | refine blk_drew ?_ | refine blk_alloc ?_ _)); exact BK101.out⟩, ⟨by repeat (first | (with_reducible first | exact HB.out | apply below_alloc | apply pw_below_drewN | apply below_drew1 | refine below_set ?_ GE101.out) | exact HB.out)⟩⟩
 case round =>
  clear H'
  try clear c2
  try clear p2
  try clear c4
  try clear hcz6_0
  try clear hcz6_1
  try clear hfz6_0
  try clear hfz6_1
  obtain ⟨x7_1, x16_1, rfl, HA, HK1, HO_7, HO_8, BK101, HB⟩ := hrel
  cases gk with
  | zero => exact absurd HA.out (by simp [enter_Leave.l0])
  | succ k1 =>
   have H := HA.out
   clear HA
   simp only [enter_Leave.l0] at H
   by_cases c9 : x16_1 < (t102.length : Int)
   ·rw [if_pos c9] at H
    have c9b0 : decide (x16_1 < (t102.length : Int)) = true := decide_eq_true c9
    clear c9
    obtain ⟨ji10, hji10⟩ : ∃ j_ : Int, (wrap64 ((wrap64 ((t102.length : Int) - 1)) - x16_1)) = j_ := ⟨_, rfl⟩
    replace H : (if 0 ≤ (ji10) then (if (ji10) < (t102.length : Int) then (if x7_1.length < 17592186044416 then (enter_Leave.l0 k1 (x7_1 ++ [rd t102 (ji10)]) t102 (t102.length : Int) (wrap64 (x16_1 + 1))) else (none)) else (none)) else (none)) = some r := by first | (rw [hji10] at H; exact H) | (simp only [hji10] at H ⊢; exact H)
    have hji10w : (IntKind.i64.wrap ((wrap64 ((t102.length : Int) - 1)) - x16_1)) = ji10 := (i64_w _).trans hji10
    by_cases c11 : 0 ≤ (ji10)
    ·rw [if_pos c11] at H
     have c11b0 : decide (0 ≤ (ji10)) = true := decide_eq_true c11
     clear c11
     by_cases c12 : (ji10) < (t102.length : Int)
     ·rw [if_pos c12] at H
      have c12b0 : decide ((ji10) < (t102.length : Int)) = true := decide_eq_true c12
      clear c12
      by_cases c13 : x7_1.length < 17592186044416
      ·rw [if_pos c13] at H
       have LMc13 := Aside0.mk c13
       clear c13
       obtain ⟨y106, hy106⟩ : ∃ y_ : List Int, y_ = (x7_1 ++ [rd t102 (ji10)]) := ⟨_, rfl⟩
       replace H : (enter_Leave.l0 k1 y106 t102 (t102.length : Int) (wrap64 (x16_1 + 1))) = some r := by first | (rw [hy106]; with_reducible exact H) | (have H2_ := (Option.bind_some _ _).symm.trans H; rw [hy106]; with_reducible exact H2_) | (have H2_ := (Option.bind_some _ _).symm.trans H; with_reducible exact H2_) | with_reducible exact H | (rw [hy106]; exact H) | exact H
       have Ny106 := Aside0.mk hy106
       clear hy106
       have H' := Aside0.mk H
       clear H
       have p105 : 0 ≤ ((ji10) : Int) := of_decide_eq_true (by first | (with_reducible assumption) | assumption)
       have q105 : (ji10) < (t102.length : Int) := of_decide_eq_true (by first | (with_reducible assumption) | assumption)
       obtain ⟨ad105, e105, hx105_0⟩ := Kd.at_int (Kd.R_reads' HO_8.out).2.2 (ji10) p105 q105
       cases e105
       replace p105 := eq_true p105
       replace q105 := eq_true q105
       go_wp2_with (first | ((with_reducible refine gate_builtin (b := .append) (xs := #[.tmp 19, .tmp 28]) rfl ?_); at_builtin; refine Kd.R_append (Kd.int .i64) (w0 := w) w.heap.size rfl (.tmp 19) (.tmp 28) 22 3 (.int .i64 0) 8 rfl Try.underlying22 info3 rfl (by decide) (by omega) u7 x7_1 (rd t102 (ji10)) [.int .i64 (rd t102 (ji10))] (fun k_ => some k_ ≠ (.slice (some ad105) t102.length co8 : Value).ownBlock) (fun _ => False) rfl rfl ?aP (fun _ hk => hk.elim) ?aF ?aO ?aB ?aS ?aL ?_; (case aP => exact rfl); (case aB => exact (by repeat (first | (with_reducible first | exact HB.out | apply below_alloc | apply pw_below_drewN | apply below_drew1 | refine below_set ?_ GE101.out) | exact HB.out))); (case aF => exact (fun k_ hk => Kd.fresh' (Kd.R_lt (by (with_reducible repeat (first | apply Kd.R_alloc | apply Kd.R_drewN | apply Kd.R_drew)); exact HO_8.out)) k_ hk)); (case aO => exact (by (with_reducible repeat (first | apply Kd.R_alloc | apply Kd.R_drewN | apply Kd.R_drew)); exact HO_7.out)); (case aS => exact (below_size (by repeat (first | (with_reducible first | exact HB.out | apply below_alloc | apply pw_below_drewN | apply below_drew1 | refine below_set ?_ GE101.out) | exact HB.out)))); (case aL => have := LMc13.out; omega); intro v107 w14 ho hb hg hat; rw [← Ny106.out] at ho; have n0_ := Aside0.mk (Kd.R_after (ok := (fun _ => True)) (by (with_reducible repeat (first | apply Kd.R_alloc | apply Kd.R_drewN | apply Kd.R_drew)); exact Kd.R_mono HO_8.out (fun _ hk => ⟨trivial, hk⟩)) hg hat); have n1_ := Aside0.mk (blk_grown (g := gb101) (o := .cells #[.slice A0_0 l0_0.length c0_0, .slice A0_1 l0_1.length c0_1] 24 (0, 0)) (by (with_reducible repeat (first | refine blk_drewN ?_ _ | refine blk_drew ?_ | refine blk_alloc ?_ _)); exact BK101.out) hg (Kd.R_ne HO_7.out BK101.out (by decide))); have n2_ := Aside0.mk (hb); have n3_ := Aside0.mk (ho); clear HO_8; clear BK101; clear HB; clear HO_7; have HO_8 := n0_; have BK101 := n1_; have HB := n2_; have HO108 := n3_; clear n0_ n1_ n2_ n3_; clear ho hb hg hat))
       go_roundg k1
       case measure => have := HK1.out; omega
       case rel => exact ⟨(y106), (wrap64 (x16_1 + 1)), (by first | rfl | (simp; done) | (simp [*]; done)), (by first | exact H' | exact ⟨by simp only [hji10]; exact H'.out⟩), ⟨by have := HK1.out; omega⟩, ⟨by (with_reducible repeat (first | apply Kd.R_alloc | apply Kd.R_drewN | apply Kd.R_drew)); exact HO108.out⟩, ⟨by (with_reducible repeat (first | apply Kd.R_alloc | apply Kd.R_drewN | apply Kd.R_drew)); exact Kd.R_mono HO_8.out (fun _ hk => hk.2)⟩, ⟨by (with_reducible repeat (first | refine blk_drewN ?_ _ | refine blk_drew ?_ | refine blk_alloc ?_ _)); exact BK101.out⟩, ⟨by repeat (first | (with_reducible first | exact HB.out | apply below_alloc | apply pw_below_drewN | apply below_drew1 | refine below_set ?_ GE101.out) | exact HB.out)⟩⟩
      ·rw [if_neg c13] at H
       exact absurd H (by simp)
     ·rw [if_neg c12] at H
      exact absurd H (by simp)
    ·rw [if_neg c11] at H
     exact absurd H (by simp)
   ·rw [if_neg c9] at H
    have c9b0 : decide (x16_1 < (t102.length : Int)) = false := decide_eq_false c9
    clear c9
    obtain rfl := Option.some.inj H
    go_wp2
    go_ret
    exact ⟨_, by first | rfl | (simp [errW_none, errW_some] <;> rfl) | (simp [*, errW_none, errW_some] <;> rfl), by (with_reducible repeat (first | apply Kd.R_alloc | apply Kd.R_drewN | apply Kd.R_drew)); exact Kd.R_mono HO_7.out (fun _ hk => trivial), by repeat (first | (with_reducible first | exact HB.out | apply below_alloc | apply pw_below_drewN | apply below_drew1 | refine below_set ?_ GE101.out) | exact HB.out)⟩
end Go.Proofs.Ytnomeokicfpidaa.Q
namespace Go.Proofs.Ytnomeokicfpidaa.Q
open Go.RowKit Go.Proofs.YtnomeokicfpidaaW.PrintWords Go.Proofs.YtnomeokicfpidaaW.PrintLast Go.Proofs.YtnomeokicfpidaaW.PrintMore
attribute [local go_sem] max2_int min2_int max_two min_two max_three min_three max_four min_four
set_option linter.unusedVariables false
set_option linter.unusedSimpArgs false
mutual
def enter_remembers.j0 : Nat → Int → Bool → List Int → List Int → Option (Bool)
 | 0, _, _, _, _ => none
 | k + 1, x1, x15, x102000, x102001 => if x15 = true then (some false) else ((shape_Kids.f k x102000 x102001 x1).bind fun t102 => (enter_remembers.l0 k t102 (t102.length : Int) 0 x102000 x102001))
def enter_remembers.l0 : Nat → List Int → Int → Int → List Int → List Int → Option (Bool)
 | 0, _, _, _, _, _ => none
 | k + 1, x18, x19, x20, x102000, x102001 => if x20 < x19 then (if 0 ≤ x20 then (if x20 < (x18.length : Int) then (if 0 ≤ (rd x18 x20) then (if (rd x18 x20) < (x102000.length : Int) then (if (rd x102000 (rd x18 x20)) = 3 then (some true) else (if (rd x102000 (rd x18 x20)) = 4 then (some true) else (enter_remembers.l0 k x18 x19 (wrap64 (x20 + 1)) x102000 x102001))) else (none)) else (none)) else (none)) else (none)) else (some false)
end
def enter_remembers.f (k : Nat) (l0_0 : List Int) (l0_1 : List Int) (a1 : Int) : Option (Bool) := if a1 < 0 then (enter_remembers.j0 k a1 true l0_0 l0_1) else (enter_remembers.j0 k a1 (decide (a1 ≥ (l0_0.length : Int))) l0_0 l0_1)
set_option maxHeartbeats 8000000 in
set_option maxRecDepth 100000 in
theorem enter_remembers.calls (k : Nat) (A0_0 : Option Addr) (c0_0 : Nat) (l0_0 : List Int) (A0_1 : Option Addr) (c0_1 : Nat) (l0_1 : List Int) (a1 : Int) (r : Bool) (w : World) (hr0_0 : Kd.C (Kd.int .i64) w A0_0 l0_0.length l0_0) (hc0_0 : l0_0.length ≤ c0_0) (hr0_1 : Kd.C (Kd.int .i64) w A0_1 l0_1.length l0_1) (hc0_1 : l0_1.length ≤ c0_1) (h : enter_remembers.f k l0_0 l0_1 a1 = some r) :
  Calls Try.prog 50 #[.agg #[.slice A0_0 l0_0.length c0_0, .slice A0_1 l0_1.length c0_1], .int .i64 a1] w fun e w' => e = .returned (.bool r) ∧ Below w.heap.size w w' := by
 have hu24 := Try.underlying24
 have HR0_0 := Aside0.mk hr0_0
 have HC0_0 := Aside0.mk hc0_0
 clear hr0_0 hc0_0
 have HR0_1 := Aside0.mk hr0_1
 have HC0_1 := Aside0.mk hc0_1
 clear hr0_1 hc0_1
 have HB := Aside0.mk (Below.refl w.heap.size w)
 have H : (if a1 < 0 then (enter_remembers.j0 k a1 true l0_0 l0_1) else (enter_remembers.j0 k a1 (decide (a1 ≥ (l0_0.length : Int))) l0_0 l0_1)) = some r := h
 clear h
 have HC3 := Aside0.mk H
 clear H
 go_enter Try.func50, Try.ntmps50
 go_upto_region 1 with (first | ((with_reducible refine gate_dst (N := 2) rfl ?_); (try (refine gate_guard (by rfl) ?_; dsimp only)); refine box_event ?hg (N := 2) ?hd (cs := #[.slice A0_0 l0_0.length c0_0, .slice A0_1 l0_1.length c0_1]) (t := 24) ?hr ?_; (case hd => rfl); (case hg => rfl); (case hr => first | (go_simp; done) | (go_simp; rfl)); intro gb101 hg w4 hbox hb; have n0_ := Aside0.mk (below_step (by repeat (first | (with_reducible first | exact HB.out | apply below_alloc | apply pw_below_drewN | apply below_drew1) | exact HB.out)) hb); have n1_ := Aside0.mk (hbox); have n2_ := Aside0.mk ((by rw [hg]; exact (below_size (by repeat (first | (with_reducible first | exact HB.out | apply below_alloc | apply pw_below_drewN | apply below_drew1) | exact HB.out))) : w.heap.size ≤ gb101)); have n3_ := Aside0.mk ((by rw [hg]; exact (below_size (by repeat (first | (with_reducible first | exact HB.out | apply below_alloc | apply pw_below_drewN | apply below_drew1) | exact HB.out))) : w.heap.size ≤ gb101)); clear HB; have HB := n0_; have BK101 := n1_; have GW101 := n2_; have GE101 := n3_; clear n0_ n1_ n2_ n3_; clear hb hbox hg))
 (try simp only [Act.put, List.setIfInBounds_toArray, List.set_cons_zero, List.set_cons_succ])
 go_cut [15] (fun v15 wc => ∃ (kq : Nat) (x15_2 : Bool), v15 = .bool x15_2 ∧ Aside0 (enter_remembers.j0 kq a1 x15_2 l0_0 l0_1 = some r) ∧ Aside0 (kq ≤ k) ∧ Aside0 (wc.heap[gb101]? = some (.cells #[(.slice A0_0 l0_0.length c0_0), (.slice A0_1 l0_1.length c0_1)] 24 (0, 0))) ∧ Aside0 (Below w.heap.size w wc))
 case first =>
  have H := HC3.out
  clear HC3
  by_cases c5 : a1 < 0
  ·rw [if_pos c5] at H
   have c5b0 : decide (a1 < 0) = true := decide_eq_true c5
   clear c5
   (first | rw [c5b0] | (simp only [i64_w, i32_w]; rw [c5b0]) | skip)
   have H' := Aside0.mk H
   clear H
   go_wp2
   go_meet
   case rel => exact ⟨_, (true), (by first | rfl | (simp; done) | (simp [*]; done)), H', ⟨by first | omega | exact Nat.le_refl _⟩, ⟨by (with_reducible repeat (first | refine blk_drewN ?_ _ | refine blk_drew ?_ | refine blk_alloc ?_ _)); exact BK101.out⟩, ⟨by repeat (first | (with_reducible first | exact HB.out | apply below_alloc | apply pw_below_drewN | apply below_drew1 | refine below_set ?_ GE101.out) | exact HB.out)⟩⟩
  ·rw [if_neg c5] at H
   have c5b0 : decide (a1 < 0) = false := decide_eq_false c5
   clear c5
   (first | rw [c5b0] | (simp only [i64_w, i32_w]; rw [c5b0]) | skip)
   have H' := Aside0.mk H
   clear H
   have hcz6_0 : w4.cell? ⟨gb101, 0, none⟩ = some (.slice A0_0 l0_0.length c0_0) := (blk_cell BK101.out 0).trans rfl
   have hcz6_1 : w4.cell? ⟨gb101, 1, none⟩ = some (.slice A0_1 l0_1.length c0_1) := (blk_cell BK101.out 1).trans rfl
   have hfz6_0 := blk_frozen BK101.out 0
   have hfz6_1 := blk_frozen BK101.out 1
   go_wp2
   go_meet
   case rel => exact ⟨_, (decide (a1 ≥ (l0_0.length : Int))), (by first | rfl | (simp; done) | (simp [*]; done)), H', ⟨by first | omega | exact Nat.le_refl _⟩, ⟨by (with_reducible repeat (first | refine blk_drewN ?_ _ | refine blk_drew ?_ | refine blk_alloc ?_ _)); exact BK101.out⟩, ⟨by repeat (first | (with_reducible first | exact HB.out | apply below_alloc | apply pw_below_drewN | apply below_drew1 | refine below_set ?_ GE101.out) | exact HB.out)⟩⟩
 case rest =>
  clear HC3
  try clear p2
  try clear c5
  try clear c5b0
  try clear hcz6_0
  try clear hcz6_1
  try clear hfz6_0
  try clear hfz6_1
  obtain ⟨kq, x15_2, rfl, HA, HJ2, BK101, HB⟩ := hcut
  cases kq with
  | zero => exact absurd HA.out (by simp [enter_remembers.j0])
  | succ kj2 =>
   have H := HA.out
   clear HA
   simp only [enter_remembers.j0] at H
   by_cases c7 : x15_2 = true
   ·subst c7
    have H1 : (some false) = some r := by rw [if_pos rfl] at H; exact H
    clear H
    have H := H1
    clear H1
    obtain rfl := Option.some.inj H
    go_wp2
    go_ret
    exact ⟨by first | rfl | (simp [errW_none, errW_some] <;> rfl) | (simp [*, errW_none, errW_some] <;> rfl), by repeat (first | (with_reducible first | exact HB.out | apply below_alloc | apply pw_below_drewN | apply below_drew1 | refine below_set ?_ GE101.out) | exact HB.out)⟩
   ·replace c7 := Bool.eq_false_iff.mpr c7
    subst c7
    have H1 : ((shape_Kids.f kj2 l0_0 l0_1 a1).bind fun t102 => (enter_remembers.l0 kj2 t102 (t102.length : Int) 0 l0_0 l0_1)) = some r := by rw [if_neg (show ¬ (false = true) by decide)] at H; exact H
    clear H
    have H := H1
    clear H1
    replace H := Option.bind_eq_some_iff.mp H
    obtain ⟨t102, A80, H⟩ := H
    replace H : (enter_remembers.l0 kj2 t102 (t102.length : Int) 0 l0_0 l0_1) = some r := H
    have A8 := Aside0.mk A80
    clear A80
    have H' := Aside0.mk H
    clear H
    have hcz9_0 : wc.cell? ⟨gb101, 0, none⟩ = some (.slice A0_0 l0_0.length c0_0) := (blk_cell BK101.out 0).trans rfl
    have hcz9_1 : wc.cell? ⟨gb101, 1, none⟩ = some (.slice A0_1 l0_1.length c0_1) := (blk_cell BK101.out 1).trans rfl
    have hfz9_0 := blk_frozen BK101.out 0
    have hfz9_1 := blk_frozen BK101.out 1
    go_wp2_with (first | ((with_reducible refine gate_callee (f := 25) rfl ?_); refine goesL_ (some 18) rfl rfl Try.func25 (by kernel_rfl) rfl #[.agg #[.slice A0_0 l0_0.length c0_0, .slice A0_1 l0_1.length c0_1], .int .i64 a1] rfl (by (try simp only [List.map_toArray, List.map_cons, List.map_nil]); first | done | rfl | (simp only [List.length_drop, List.length_take]; rfl)) ?_; (with_reducible refine (shape_Kids.calls kj2 _ _ l0_0 _ _ l0_1 a1 t102 _ ?side1 ?side2 ?side3 ?side4 A8.out).mono ?_); (case side1 => repeat (first | exact (Kd.C_below HR0_0.out HB.out) | (with_reducible refine Kd.C_alloc ?_ _) | (with_reducible refine Kd.C_drewN ?_ _) | (with_reducible refine Kd.C_drew ?_))); (case side2 => exact HC0_0.out); (case side3 => repeat (first | exact (Kd.C_below HR0_1.out HB.out) | (with_reducible refine Kd.C_alloc ?_ _) | (with_reducible refine Kd.C_drewN ?_ _) | (with_reducible refine Kd.C_drew ?_))); (case side4 => exact HC0_1.out); rintro e w10 ⟨v103, rfl, ho0, hb⟩; refine ⟨_, rfl, ?_⟩; have n0_ := Aside0.mk (Kd.R_lower ho0 (below_size (by repeat (first | (with_reducible first | exact HB.out | apply below_alloc | apply pw_below_drewN | apply below_drew1 | refine below_set ?_ GE101.out) | exact HB.out)))); have n1_ := Aside0.mk (blk_below (g := gb101) (o := .cells #[.slice A0_0 l0_0.length c0_0, .slice A0_1 l0_1.length c0_1] 24 (0, 0)) (by (with_reducible repeat (first | refine blk_drewN ?_ _ | refine blk_drew ?_ | refine blk_alloc ?_ _)); exact BK101.out) hb); have n2_ := Aside0.mk (below_step (by repeat (first | (with_reducible first | exact HB.out | apply below_alloc | apply pw_below_drewN | apply below_drew1 | refine below_set ?_ GE101.out) | exact HB.out)) hb); clear BK101; clear HB; have HO104 := n0_; have BK101 := n1_; have HB := n2_; clear n0_ n1_ n2_; (try clear hb); (try clear hb2); (try clear hk); (try clear hi); (try clear ho0); obtain ⟨Ao11, co11, eo11⟩ := Kd.R_slice HO104.out; subst eo11))
    go_loopg [20] kj2 (fun kq v20 w' => ∃ (x20_2 : Int), v20 = .int .i64 x20_2 ∧ Aside0 (enter_remembers.l0 kq t102 (t102.length : Int) x20_2 l0_0 l0_1 = some r) ∧ Aside0 (kq ≤ kj2) ∧ Aside0 (Kd.R (Kd.int .i64) 3 w' w.heap.size (fun _ => True) (.slice Ao11 t102.length co11) t102) ∧ Aside0 (w'.heap[gb101]? = some (.cells #[(.slice A0_0 l0_0.length c0_0), (.slice A0_1 l0_1.length c0_1)] 24 (0, 0))) ∧ Aside0 (Below w.heap.size w w'))
    case atStart => exact ⟨(0), (by first | rfl | (simp; done) | (simp [*]; done)), H', ⟨Nat.le_refl _⟩, ⟨by (with_reducible repeat (first | apply Kd.R_alloc | apply Kd.R_drewN | apply Kd.R_drew)); exact HO104.out⟩, ⟨by (with_reducible repeat (first | refine blk_drewN ?_ _ | refine blk_drew ?_ | refine blk_alloc ?_ _)); exact BK101.out⟩, ⟨by repeat (first | (with_reducible first | exact HB.out | apply below_alloc | apply pw_below_drewN | apply below_drew1 | refine below_set ?_ GE101.out) | exact HB.out)⟩⟩
    case round =>
     clear H'
     try clear c2
     try clear p2
     try clear c5
     try clear c5b0
     try clear c7
     try clear hcz6_0
     try clear hcz6_1
     try clear hcz9_0
     try clear hcz9_1
     try clear hfz6_0
     try clear hfz6_1
     try clear hfz9_0
     try clear hfz9_1
     try clear p2
     obtain ⟨x20_2, rfl, HA, HK2, HO_18, BK101, HB⟩ := hrel
     cases gk with
     | zero => exact absurd HA.out (by simp [enter_remembers.l0])
     | succ k2 =>
      have H := HA.out
      clear HA
      simp only [enter_remembers.l0] at H
      by_cases c12 : x20_2 < (t102.length : Int)
      ·rw [if_pos c12] at H
       have c12b0 : decide (x20_2 < (t102.length : Int)) = true := decide_eq_true c12
       clear c12
       by_cases c13 : 0 ≤ x20_2
       ·rw [if_pos c13] at H
        have c13b0 : decide (0 ≤ x20_2) = true := decide_eq_true c13
        clear c13
        by_cases c14 : x20_2 < (t102.length : Int)
        ·rw [if_pos c14] at H
         have c14b0 : decide (x20_2 < (t102.length : Int)) = true := decide_eq_true c14
         clear c14
         by_cases c15 : 0 ≤ (rd t102 x20_2)
         ·rw [if_pos c15] at H
          have c15b0 : decide (0 ≤ (rd t102 x20_2)) = true := decide_eq_true c15
          clear c15
          by_cases c16 : (rd t102 x20_2) < (l0_0.length : Int)
          ·rw [if_pos c16] at H
           have c16b0 : decide ((rd t102 x20_2) < (l0_0.length : Int)) = true := decide_eq_true c16
           clear c16
           by_cases c17 : (rd l0_0 (rd t102 x20_2)) = 3
           ·rw [if_pos c17] at H
            have c17b0 : ((rd l0_0 (rd t102 x20_2)) == 3) = true := beq_iff_eq.mpr c17
            have c17b1 : ((rd l0_0 (rd t102 x20_2)) != 3) = false := bne_eq_false_iff_eq.mpr c17
            clear c17
            obtain rfl := Option.some.inj H
            have p105 : 0 ≤ (x20_2 : Int) := of_decide_eq_true (by first | (with_reducible assumption) | assumption)
            have q105 : x20_2 < (t102.length : Int) := of_decide_eq_true (by first | (with_reducible assumption) | assumption)
            obtain ⟨ad105, e105, hx105_0⟩ := Kd.at_int (Kd.R_reads' HO_18.out).2.2 x20_2 p105 q105
            cases e105
            replace p105 := eq_true p105
            replace q105 := eq_true q105
            have hcz18_0 : wr.cell? ⟨gb101, 0, none⟩ = some (.slice A0_0 l0_0.length c0_0) := (blk_cell BK101.out 0).trans rfl
            have hcz18_1 : wr.cell? ⟨gb101, 1, none⟩ = some (.slice A0_1 l0_1.length c0_1) := (blk_cell BK101.out 1).trans rfl
            have hfz18_0 := blk_frozen BK101.out 0
            have hfz18_1 := blk_frozen BK101.out 1
            have p106 : 0 ≤ ((rd t102 x20_2) : Int) := of_decide_eq_true (by first | (with_reducible assumption) | assumption)
            have q106 : (rd t102 x20_2) < (l0_0.length : Int) := of_decide_eq_true (by first | (with_reducible assumption) | assumption)
            obtain ⟨ad106, e106, hx106_0⟩ := Kd.at_int HR0_0.out (rd t102 x20_2) p106 q106
            cases e106
            replace hx106_0 := (HB.out.cell (World.block_lt_of_cell? w _ hx106_0)).trans hx106_0
            replace p106 := eq_true p106
            replace q106 := eq_true q106
            go_wp2
            go_ret
            exact ⟨by first | rfl | (simp [errW_none, errW_some] <;> rfl) | (simp [*, errW_none, errW_some] <;> rfl), by repeat (first | (with_reducible first | exact HB.out | apply below_alloc | apply pw_below_drewN | apply below_drew1 | refine below_set ?_ GE101.out) | exact HB.out)⟩
           ·rw [if_neg c17] at H
            have c17b0 : ((rd l0_0 (rd t102 x20_2)) == 3) = false := beq_eq_false_iff_ne.mpr c17
            have c17b1 : ((rd l0_0 (rd t102 x20_2)) != 3) = true := bne_iff_ne.mpr c17
            by_cases c19 : (rd l0_0 (rd t102 x20_2)) = 4
            ·rw [if_pos c19] at H
             have c19b0 : ((rd l0_0 (rd t102 x20_2)) == 4) = true := beq_iff_eq.mpr c19
             have c19b1 : ((rd l0_0 (rd t102 x20_2)) != 4) = false := bne_eq_false_iff_eq.mpr c19
             clear c19
             obtain rfl := Option.some.inj H
             have p105 : 0 ≤ (x20_2 : Int) := of_decide_eq_true (by first | (with_reducible assumption) | assumption)
             have q105 : x20_2 < (t102.length : Int) := of_decide_eq_true (by first | (with_reducible assumption) | assumption)
             obtain ⟨ad105, e105, hx105_0⟩ := Kd.at_int (Kd.R_reads' HO_18.out).2.2 x20_2 p105 q105
             cases e105
             replace p105 := eq_true p105
             replace q105 := eq_true q105
             have hcz20_0 : wr.cell? ⟨gb101, 0, none⟩ = some (.slice A0_0 l0_0.length c0_0) := (blk_cell BK101.out 0).trans rfl
             have hcz20_1 : wr.cell? ⟨gb101, 1, none⟩ = some (.slice A0_1 l0_1.length c0_1) := (blk_cell BK101.out 1).trans rfl
             have hfz20_0 := blk_frozen BK101.out 0
             have hfz20_1 := blk_frozen BK101.out 1
             have p106 : 0 ≤ ((rd t102 x20_2) : Int) := of_decide_eq_true (by first | (with_reducible assumption) | assumption)
             have q106 : (rd t102 x20_2) < (l0_0.length : Int) := of_decide_eq_true (by first | (with_reducible assumption) | assumption)
             obtain ⟨ad106, e106, hx106_0⟩ := Kd.at_int HR0_0.out (rd t102 x20_2) p106 q106
             cases e106
             replace hx106_0 := (HB.out.cell (World.block_lt_of_cell? w _ hx106_0)).trans hx106_0
             replace p106 := eq_true p106
             replace q106 := eq_true q106
             have p107 : 0 ≤ ((rd t102 x20_2) : Int) := of_decide_eq_true (by first | (with_reducible assumption) | assumption)
             have q107 : (rd t102 x20_2) < (l0_0.length : Int) := of_decide_eq_true (by first | (with_reducible assumption) | assumption)
             obtain ⟨ad107, e107, hx107_0⟩ := Kd.at_int HR0_0.out (rd t102 x20_2) p107 q107
             obtain rfl : ad106 = ad107 := (by injection e107)
             replace hx107_0 := (HB.out.cell (World.block_lt_of_cell? w _ hx107_0)).trans hx107_0
             replace p107 := eq_true p107
             replace q107 := eq_true q107
             go_wp2
             go_ret
             exact ⟨by first | rfl | (simp [errW_none, errW_some] <;> rfl) | (simp [*, errW_none, errW_some] <;> rfl), by repeat (first | (with_reducible first | exact HB.out | apply below_alloc | apply pw_below_drewN | apply below_drew1 | refine below_set ?_ GE101.out) | exact HB.out)⟩
            ·rw [if_neg c19] at H
             have c19b0 : ((rd l0_0 (rd t102 x20_2)) == 4) = false := beq_eq_false_iff_ne.mpr c19
             have c19b1 : ((rd l0_0 (rd t102 x20_2)) != 4) = true := bne_iff_ne.mpr c19
             have H' := Aside0.mk H
             clear H
             have p105 : 0 ≤ (x20_2 : Int) := of_decide_eq_true (by first | (with_reducible assumption) | assumption)
             have q105 : x20_2 < (t102.length : Int) := of_decide_eq_true (by first | (with_reducible assumption) | assumption)
             obtain ⟨ad105, e105, hx105_0⟩ := Kd.at_int (Kd.R_reads' HO_18.out).2.2 x20_2 p105 q105
             cases e105
             replace p105 := eq_true p105
             replace q105 := eq_true q105
             have hcz21_0 : wr.cell? ⟨gb101, 0, none⟩ = some (.slice A0_0 l0_0.length c0_0) := (blk_cell BK101.out 0).trans rfl
             have hcz21_1 : wr.cell? ⟨gb101, 1, none⟩ = some (.slice A0_1 l0_1.length c0_1) := (blk_cell BK101.out 1).trans rfl
             have hfz21_0 := blk_frozen BK101.out 0
             have hfz21_1 := blk_frozen BK101.out 1
             have p106 : 0 ≤ ((rd t102 x20_2) : Int) := of_decide_eq_true (by first | (with_reducible assumption) | assumption)
             have q106 : (rd t102 x20_2) < (l0_0.length : Int) := of_decide_eq_true (by first | (with_reducible assumption) | assumption)
             obtain ⟨ad106, e106, hx106_0⟩ := Kd.at_int HR0_0.out (rd t102 x20_2) p106 q106
             cases e106
             replace hx106_0 := (HB.out.cell (World.block_lt_of_cell? w _ hx106_0)).trans hx106_0
             replace p106 := eq_true p106
             replace q106 := eq_true q106
             have p107 : 0 ≤ ((rd t102 x20_2) : Int) := of_decide_eq_true (by first | (with_reducible assumption) | assumption)
             have q107 : (rd t102 x20_2) < (l0_0.length : Int) := of_decide_eq_true (by first | (with_reducible assumption) | assumption)
             obtain ⟨ad107, e107, hx107_0⟩ := Kd.at_int HR0_0.out (rd t102 x20_2) p107 q107
             obtain rfl : ad106 = ad107 := (by injection e107)
             replace hx107_0 := (HB.out.cell (World.block_lt_of_cell? w _ hx107_0)).trans hx107_0
             replace p107 := eq_true p107
             replace q107 := eq_true q107
             go_wp2
             go_roundg k2
             case measure => have := HJ2.out; have := HK2.out; omega
             case rel => exact ⟨(wrap64 (x20_2 + 1)), (by first | rfl | (simp; done) | (simp [*]; done)), H', ⟨by have := HJ2.out; have := HK2.out; omega⟩, ⟨by (with_reducible repeat (first | apply Kd.R_alloc | apply Kd.R_drewN | apply Kd.R_drew)); exact HO_18.out⟩, ⟨by (with_reducible repeat (first | refine blk_drewN ?_ _ | refine blk_drew ?_ | refine blk_alloc ?_ _)); exact BK101.out⟩, ⟨by repeat (first | (with_reducible first | exact HB.out | apply below_alloc | apply pw_below_drewN | apply below_drew1 | refine below_set ?_ GE101.out) | exact HB.out)⟩⟩
          ·rw [if_neg c16] at H
           exact absurd H (by simp)
         ·rw [if_neg c15] at H
          exact absurd H (by simp)
        ·rw [if_neg c14] at H
         exact absurd H (by simp)
       ·rw [if_neg c13] at H
        exact absurd H (by simp)
      ·rw [if_neg c12] at H
       have c12b0 : decide (x20_2 < (t102.length : Int)) = false := decide_eq_false c12
       clear c12
       obtain rfl := Option.some.inj H
       go_wp2
       go_ret
       exact ⟨by first | rfl | (simp [errW_none, errW_some] <;> rfl) | (simp [*, errW_none, errW_some] <;> rfl), by repeat (first | (with_reducible first | exact HB.out | apply below_alloc | apply pw_below_drewN | apply below_drew1 | refine below_set ?_ GE101.out) | exact HB.out)⟩
end Go.Proofs.Ytnomeokicfpidaa.Q
namespace Go.Proofs.Ytnomeokicfpidaa.Q
open Go.RowKit Go.Proofs.YtnomeokicfpidaaW.PrintWords Go.Proofs.YtnomeokicfpidaaW.PrintLast Go.Proofs.YtnomeokicfpidaaW.PrintMore
attribute [local go_sem] max2_int min2_int max_two min_two max_three min_three max_four min_four
set_option linter.unusedVariables false
set_option linter.unusedSimpArgs false
mutual
def enter_Remember.l0 : Nat → Int → List Int → List Int → Int → Int → List Int → List Int → Option (List Int)
 | 0, _, _, _, _, _, _, _ => none
 | k + 1, x1, x9, x21, x22, x23, x102000, x102001 => if x23 < x22 then (if 0 ≤ x23 then (if x23 < (x21.length : Int) then ((enter_remembers.f k x102000 x102001 (rd x21 x23)).bind fun t109 => (if t109 = true then (if 0 ≤ (rd x21 x23) then (if (rd x21 x23) < (x9.length : Int) then ((enter_below.f k x102000 x102001 x1 (rd x21 x23)).bind fun t111 => (enter_Remember.l1 k x1 (x9.set ((rd x21 x23) : Int).toNat 0) (rd x21 x23) x21 x22 x23 t111 (t111.length : Int) 0 x102000 x102001)) else (none)) else (none)) else (enter_Remember.l0 k x1 x9 x21 x22 (wrap64 (x23 + 1)) x102000 x102001))) else (none)) else (none)) else (some x9)
def enter_Remember.l1 : Nat → Int → List Int → Int → List Int → Int → Int → List Int → Int → Int → List Int → List Int → Option (List Int)
 | 0, _, _, _, _, _, _, _, _, _, _, _ => none
 | k + 1, x1, x9, x11, x21, x22, x23, x37, x38, x39, x102000, x102001 => if x39 < x38 then (if 0 ≤ x39 then (if x39 < (x37.length : Int) then (if 0 ≤ x11 then (if x11 < (x9.length : Int) then (if 0 ≤ (rd x37 x39) then (enter_Remember.l1 k x1 (x9.set (x11 : Int).toNat (Go.bits .or .u32 (rd x9 x11) (shl .u32 1 (rd x37 x39)))) x11 x21 x22 x23 x37 x38 (wrap64 (x39 + 1)) x102000 x102001) else (none)) else (none)) else (none)) else (none)) else (none)) else (enter_Remember.l0 k x1 x9 x21 x22 (wrap64 (x23 + 1)) x102000 x102001)
end
def enter_Remember.f (k : Nat) (l0_0 : List Int) (l0_1 : List Int) (a1 : Int) (l2 : List Int) (l3 : List Int) : Option (List Int) := if 0 ≤ (l0_0.length : Int) then (if ((l0_0.length : Int) : Int).toNat ≤ 70368744177664 then ((some (List.replicate ((l0_0.length : Int) : Int).toNat 0 : List Int)).bind fun y102 => (enter_Remember.l0 k a1 (l3.take (min l3.length y102.length) ++ y102.drop (min l3.length y102.length)) l2 (l2.length : Int) 0 l0_0 l0_1)) else (none)) else (none)
def enter_Remember.T11 : Bool × List (List Nat × List Nat) := (true, [([], []), ([], []), ([], []), ([], []), ([2, 3], [2, 3]), ([4], [4]), ([], []), ([6], [6]), ([5, 7], [5, 7]), ([0, 1, 0, 1, 2, 3, 4, 5, 6, 7, 8], [0, 1]), ([9, 8, 0, 1, 2, 3, 4, 5, 6, 7, 8], [8, 9])])
def enter_Remember.B11 : List Nat := [0, 0, 0, 0, 12, 28, 0, 64, 252, 511, 1023]
theorem enter_Remember.tab11 : rtab .any (opsOf Try.f24 11) = enter_Remember.T11 := by kernel_rfl
theorem enter_Remember.bits11 : waitsOk enter_Remember.T11.2 enter_Remember.B11 = true := by kernel_rfl
set_option maxHeartbeats 8000000 in
set_option maxRecDepth 100000 in
theorem enter_Remember.calls (k : Nat) (A0_0 : Option Addr) (c0_0 : Nat) (l0_0 : List Int) (A0_1 : Option Addr) (c0_1 : Nat) (l0_1 : List Int) (a1 : Int) (A2 : Option Addr) (c2 : Nat) (l2 : List Int) (A3 : Option Addr) (c3 : Nat) (l3 : List Int) (r : List Int) (w : World) (hr0_0 : Kd.C (Kd.int .i64) w A0_0 l0_0.length l0_0) (hc0_0 : l0_0.length ≤ c0_0) (hr0_1 : Kd.C (Kd.int .i64) w A0_1 l0_1.length l0_1) (hc0_1 : l0_1.length ≤ c0_1) (hr2 : Kd.C (Kd.int .i64) w A2 l2.length l2) (hc2 : l2.length ≤ c2) (hr3 : Kd.C (Kd.int .u32) w A3 l3.length l3) (hc3 : l3.length ≤ c3) (h : enter_Remember.f k l0_0 l0_1 a1 l2 l3 = some r) :
  Calls Try.prog 24 #[.agg #[.slice A0_0 l0_0.length c0_0, .slice A0_1 l0_1.length c0_1], .int .u32 a1, .slice A2 l2.length c2, .slice A3 l3.length c3] w fun e w' => ∃ v0_ : Value, e = .returned (v0_) ∧ Kd.R (Kd.int .u32) 29 w' w.heap.size (fun _ => True) v0_ r ∧ Below w.heap.size w w' := by
 have hu24 := Try.underlying24
 have HR0_0 := Aside0.mk hr0_0
 have HC0_0 := Aside0.mk hc0_0
 clear hr0_0 hc0_0
 have HR0_1 := Aside0.mk hr0_1
 have HC0_1 := Aside0.mk hc0_1
 clear hr0_1 hc0_1
 have HR2 := Aside0.mk hr2
 have HC2 := Aside0.mk hc2
 clear hr2 hc2
 have HR3 := Aside0.mk hr3
 have HC3 := Aside0.mk hc3
 clear hr3 hc3
 have HB := Aside0.mk (Below.refl w.heap.size w)
 have H : (if 0 ≤ (l0_0.length : Int) then (if ((l0_0.length : Int) : Int).toNat ≤ 70368744177664 then ((some (List.replicate ((l0_0.length : Int) : Int).toNat 0 : List Int)).bind fun y102 => (enter_Remember.l0 k a1 (l3.take (min l3.length y102.length) ++ y102.drop (min l3.length y102.length)) l2 (l2.length : Int) 0 l0_0 l0_1)) else (none)) else (none)) = some r := h
 clear h
 by_cases c5 : 0 ≤ (l0_0.length : Int)
 ·rw [if_pos c5] at H
  have c5b0 := eq_true c5
  have c5b1 : decide (0 ≤ (l0_0.length : Int)) = true := decide_eq_true c5
  clear c5
  by_cases c6 : ((l0_0.length : Int) : Int).toNat ≤ 70368744177664
  ·rw [if_pos c6] at H
   have c6b0 := eq_true c6
   have c6b1 : decide (((l0_0.length : Int) : Int).toNat ≤ 70368744177664) = true := decide_eq_true c6
   clear c6
   obtain ⟨y102, hy102⟩ : ∃ y_ : List Int, y_ = (List.replicate ((l0_0.length : Int) : Int).toNat 0) := ⟨_, rfl⟩
   replace H : (enter_Remember.l0 k a1 (l3.take (min l3.length y102.length) ++ y102.drop (min l3.length y102.length)) l2 (l2.length : Int) 0 l0_0 l0_1) = some r := by first | (rw [hy102]; with_reducible exact H) | (have H2_ := (Option.bind_some _ _).symm.trans H; rw [hy102]; with_reducible exact H2_) | (have H2_ := (Option.bind_some _ _).symm.trans H; with_reducible exact H2_) | with_reducible exact H | (rw [hy102]; exact H) | exact H
   have Ny102 := Aside0.mk hy102
   clear hy102
   obtain ⟨y105, hy105⟩ : ∃ y_ : List Int, y_ = (l3.take (min l3.length y102.length) ++ y102.drop (min l3.length y102.length)) := ⟨_, rfl⟩
   replace H : (enter_Remember.l0 k a1 y105 l2 (l2.length : Int) 0 l0_0 l0_1) = some r := by first | (rw [hy105]; with_reducible exact H) | (have H2_ := (Option.bind_some _ _).symm.trans H; rw [hy105]; with_reducible exact H2_) | (have H2_ := (Option.bind_some _ _).symm.trans H; with_reducible exact H2_) | with_reducible exact H | (rw [hy105]; exact H) | exact H
   have Ny105 := Aside0.mk hy105
   clear hy105
   have H' := Aside0.mk H
   clear H
   go_enter Try.func24, Try.ntmps24
   go_wp2_with (first | ((with_reducible refine gate_dst (N := 4) rfl ?_); refine box_event ?hg (N := 4) ?hd (cs := #[.slice A0_0 l0_0.length c0_0, .slice A0_1 l0_1.length c0_1]) (t := 24) ?hr ?_; (case hd => rfl); (case hg => rfl); (case hr => first | (go_simp; done) | (go_simp; rfl)); intro gb101 hg w7 hbox hb; have n0_ := Aside0.mk (below_step (by repeat (first | (with_reducible first | exact HB.out | apply below_alloc | apply pw_below_drewN | apply below_drew1) | exact HB.out)) hb); have n1_ := Aside0.mk (hbox); have n2_ := Aside0.mk ((by rw [hg]; exact (below_size (by repeat (first | (with_reducible first | exact HB.out | apply below_alloc | apply pw_below_drewN | apply below_drew1) | exact HB.out))) : w.heap.size ≤ gb101)); have n3_ := Aside0.mk ((by rw [hg]; exact (below_size (by repeat (first | (with_reducible first | exact HB.out | apply below_alloc | apply pw_below_drewN | apply below_drew1) | exact HB.out))) : w.heap.size ≤ gb101)); clear HB; have HB := n0_; have BK101 := n1_; have GW101 := n2_; have GE101 := n3_; clear n0_ n1_ n2_ n3_; clear hb hbox hg; have hcz8_0 : w7.cell? ⟨gb101, 0, none⟩ = some (.slice A0_0 l0_0.length c0_0) := (blk_cell BK101.out 0).trans rfl; have hcz8_1 : w7.cell? ⟨gb101, 1, none⟩ = some (.slice A0_1 l0_1.length c0_1) := (blk_cell BK101.out 1).trans rfl; have hfz8_0 := blk_frozen BK101.out 0; have hfz8_1 := blk_frozen BK101.out 1) | ((with_reducible refine gate_dst (N := 17) rfl ?_); refine Kd.R_make (Kd.int .u32) _ 29 rfl (N := 17) rfl 42 _ _ rfl (l0_0.length : Int) rfl rfl Try.underlying42 (.int .u32 0) 4 info29 rfl (by decide) (by omega) 0 (ok := fun _ => True) (okp := fun _ => True) rfl (fun _ hk => hk) trivial (of_decide_eq_true (by first | (with_reducible assumption) | assumption)) (Nat.le_trans (Nat.mul_le_mul_right _ (of_decide_eq_true (by first | (with_reducible assumption) | assumption) : (l0_0.length : Int).toNat ≤ 70368744177664)) (by omega)) (Below.refl _ _) (Nat.le_refl _) ?_; intro v103 w9 ho10 hb hg_ hnew_; clear hg_ hnew_; (first | rw [← Ny102.out] at ho10 | (simp only [Int.reduceToNat] at ho10; rw [← Ny102.out] at ho10)); have n0_ := Aside0.mk (Kd.R_lower ho10 (below_size (by repeat (first | (with_reducible first | exact HB.out | apply below_alloc | apply pw_below_drewN | apply below_drew1 | refine below_set ?_ GE101.out) | exact HB.out)))); have n1_ := Aside0.mk (blk_below (g := gb101) (o := .cells #[.slice A0_0 l0_0.length c0_0, .slice A0_1 l0_1.length c0_1] 24 (0, 0)) (by (with_reducible repeat (first | refine blk_drewN ?_ _ | refine blk_drew ?_ | refine blk_alloc ?_ _)); exact BK101.out) hb); have n2_ := Aside0.mk (below_step (by repeat (first | (with_reducible first | exact HB.out | apply below_alloc | apply pw_below_drewN | apply below_drew1 | refine below_set ?_ GE101.out) | exact HB.out)) hb); clear BK101; clear HB; have HO104 := n0_; have BK101 := n1_; have HB := n2_; clear n0_ n1_ n2_; clear hb ho10) | ((with_reducible refine gate_builtin (b := .copy) (xs := #[.tmp 18, .tmp 19]) rfl ?_); refine Kd.R_copy (enc := (Value.int .u32)) (h1 := fun _ => rfl) 0 (w0 := w) w.heap.size rfl (.tmp 18) (.tmp 19) 42 42 29 rfl Try.underlying42 (by kernel_rfl) v103 y102 l3 _ _ _ (fun _ => True) rfl rfl ?aO ?aR ?aB ?aS ?_; (case aR => repeat (first | exact (Kd.C_below HR3.out HB.out) | (with_reducible refine Kd.C_alloc ?_ _) | (with_reducible refine Kd.C_drewN ?_ _) | (with_reducible refine Kd.C_drew ?_))); (case aB => exact (by repeat (first | (with_reducible first | exact HB.out | apply below_alloc | apply pw_below_drewN | apply below_drew1 | refine below_set ?_ GE101.out) | exact HB.out))); (case aO => exact (by (with_reducible repeat (first | apply Kd.R_alloc | apply Kd.R_drewN | apply Kd.R_drew)); exact HO104.out)); (case aS => exact (below_size (by repeat (first | (with_reducible first | exact HB.out | apply below_alloc | apply pw_below_drewN | apply below_drew1 | refine below_set ?_ GE101.out) | exact HB.out)))); intro w11 ho hb hg; have hat : (v103 : Value).ownBlock = (v103 : Value).ownBlock ∨ ∃ b, (v103 : Value).ownBlock = some b ∧ w9.heap.size ≤ b := .inl rfl; rw [← Ny105.out] at ho; have n0_ := Aside0.mk (blk_grown (g := gb101) (o := .cells #[.slice A0_0 l0_0.length c0_0, .slice A0_1 l0_1.length c0_1] 24 (0, 0)) (by (with_reducible repeat (first | refine blk_drewN ?_ _ | refine blk_drew ?_ | refine blk_alloc ?_ _)); exact BK101.out) hg (Kd.R_ne HO104.out BK101.out (by decide))); have n1_ := Aside0.mk (hb); have n2_ := Aside0.mk (ho); clear BK101; clear HB; clear HO104; have BK101 := n0_; have HB := n1_; have HO107 := n2_; clear n0_ n1_ n2_; clear ho hb hg hat))
   go_loopg [23] k (fun kq v23 w' => ∃ (x9_1 : List Int) (x23_1 : Int), v23 = .int .i64 x23_1 ∧ Aside0 (enter_Remember.l0 kq a1 x9_1 l2 (l2.length : Int) x23_1 l0_0 l0_1 = some r) ∧ Aside0 (kq ≤ k) ∧ Aside0 (Kd.R (Kd.int .u32) 29 w' w.heap.size (fun _ => True) v103 x9_1) ∧ Aside0 (w'.heap[gb101]? = some (.cells #[(.slice A0_0 l0_0.length c0_0), (.slice A0_1 l0_1.length c0_1)] 24 (0, 0))) ∧ Aside0 (Below w.heap.size w w'))
   case atStart => exact ⟨(y105), (0), (by first | rfl | (simp; done) | (simp [*]; done)), H', ⟨Nat.le_refl _⟩, ⟨by (with_reducible repeat (first | apply Kd.R_alloc | apply Kd.R_drewN | apply Kd.R_drew)); exact HO107.out⟩, ⟨by (with_reducible repeat (first | refine blk_drewN ?_ _ | refine blk_drew ?_ | refine blk_alloc ?_ _)); exact BK101.out⟩, ⟨by repeat (first | (with_reducible first | exact HB.out | apply below_alloc | apply pw_below_drewN | apply below_drew1 | refine below_set ?_ GE101.out) | exact HB.out)⟩⟩
   case round =>
    clear H'
    try clear c2
    try clear p2
    try clear c3
    try clear c5
    try clear c5b0
    try clear c5b1
    try clear c6
    try clear c6b0
    try clear c6b1
    try clear hcz8_0
    try clear hcz8_1
    try clear hfz8_0
    try clear hfz8_1
    obtain ⟨x9_1, x23_1, rfl, HA, HK1, HO_9, BK101, HB⟩ := hrel
    cases gk with
    | zero => exact absurd HA.out (by simp [enter_Remember.l0])
    | succ k1 =>
     have H := HA.out
     clear HA
     simp only [enter_Remember.l0] at H
     by_cases c12 : x23_1 < (l2.length : Int)
     ·rw [if_pos c12] at H
      have c12b0 : decide (x23_1 < (l2.length : Int)) = true := decide_eq_true c12
      clear c12
      by_cases c13 : 0 ≤ x23_1
      ·rw [if_pos c13] at H
       have c13b0 : decide (0 ≤ x23_1) = true := decide_eq_true c13
       clear c13
       by_cases c14 : x23_1 < (l2.length : Int)
       ·rw [if_pos c14] at H
        have c14b0 : decide (x23_1 < (l2.length : Int)) = true := decide_eq_true c14
        clear c14
        replace H := Option.bind_eq_some_iff.mp H
        obtain ⟨t109, A150, H⟩ := H
        replace H : (if t109 = true then (if 0 ≤ (rd l2 x23_1) then (if (rd l2 x23_1) < (x9_1.length : Int) then ((enter_below.f k1 l0_0 l0_1 a1 (rd l2 x23_1)).bind fun t111 => (enter_Remember.l1 k1 a1 (x9_1.set ((rd l2 x23_1) : Int).toNat 0) (rd l2 x23_1) l2 (l2.length : Int) x23_1 t111 (t111.length : Int) 0 l0_0 l0_1)) else (none)) else (none)) else (enter_Remember.l0 k1 a1 x9_1 l2 (l2.length : Int) (wrap64 (x23_1 + 1)) l0_0 l0_1)) = some r := H
        have A15 := Aside0.mk A150
        clear A150
        by_cases c16 : t109 = true
        ·subst c16
         have H1 : (if 0 ≤ (rd l2 x23_1) then (if (rd l2 x23_1) < (x9_1.length : Int) then ((enter_below.f k1 l0_0 l0_1 a1 (rd l2 x23_1)).bind fun t111 => (enter_Remember.l1 k1 a1 (x9_1.set ((rd l2 x23_1) : Int).toNat 0) (rd l2 x23_1) l2 (l2.length : Int) x23_1 t111 (t111.length : Int) 0 l0_0 l0_1)) else (none)) else (none)) = some r := by rw [if_pos rfl] at H; exact H
         clear H
         have H := H1
         clear H1
         by_cases c17 : 0 ≤ (rd l2 x23_1)
         ·rw [if_pos c17] at H
          have c17b0 : decide (0 ≤ (rd l2 x23_1)) = true := decide_eq_true c17
          clear c17
          by_cases c18 : (rd l2 x23_1) < (x9_1.length : Int)
          ·rw [if_pos c18] at H
           have c18b0 : decide ((rd l2 x23_1) < (x9_1.length : Int)) = true := decide_eq_true c18
           clear c18
           obtain ⟨y110, hy110⟩ : ∃ y_ : List Int, y_ = (x9_1.set ((rd l2 x23_1) : Int).toNat 0) := ⟨_, rfl⟩
           replace H : ((enter_below.f k1 l0_0 l0_1 a1 (rd l2 x23_1)).bind fun t111 => (enter_Remember.l1 k1 a1 y110 (rd l2 x23_1) l2 (l2.length : Int) x23_1 t111 (t111.length : Int) 0 l0_0 l0_1)) = some r := by first | (rw [hy110]; with_reducible exact H) | (have H2_ := (Option.bind_some _ _).symm.trans H; rw [hy110]; with_reducible exact H2_) | (have H2_ := (Option.bind_some _ _).symm.trans H; with_reducible exact H2_) | with_reducible exact H | (rw [hy110]; exact H) | exact H
           have Ny110 := Aside0.mk hy110
           clear hy110
           replace H := Option.bind_eq_some_iff.mp H
           obtain ⟨t111, A200, H⟩ := H
           replace H : (enter_Remember.l1 k1 a1 y110 (rd l2 x23_1) l2 (l2.length : Int) x23_1 t111 (t111.length : Int) 0 l0_0 l0_1) = some r := H
           have A20 := Aside0.mk A200
           clear A200
           have H' := Aside0.mk H
           clear H
           have p108 : 0 ≤ (x23_1 : Int) := of_decide_eq_true (by first | (with_reducible assumption) | assumption)
           have q108 : x23_1 < (l2.length : Int) := of_decide_eq_true (by first | (with_reducible assumption) | assumption)
           obtain ⟨ad108, e108, hx108_0⟩ := Kd.at_int HR2.out x23_1 p108 q108
           cases e108
           replace hx108_0 := (HB.out.cell (World.block_lt_of_cell? w _ hx108_0)).trans hx108_0
           replace p108 := eq_true p108
           replace q108 := eq_true q108
           have hcz21_0 : wr.cell? ⟨gb101, 0, none⟩ = some (.slice A0_0 l0_0.length c0_0) := (blk_cell BK101.out 0).trans rfl
           have hcz21_1 : wr.cell? ⟨gb101, 1, none⟩ = some (.slice A0_1 l0_1.length c0_1) := (blk_cell BK101.out 1).trans rfl
           have hfz21_0 := blk_frozen BK101.out 0
           have hfz21_1 := blk_frozen BK101.out 1
           go_wp2_with (first | ((with_reducible refine gate_callee (f := 50) rfl ?_); refine goesL_ (some 29) rfl rfl Try.func50 (by kernel_rfl) rfl #[.agg #[.slice A0_0 l0_0.length c0_0, .slice A0_1 l0_1.length c0_1], .int .i64 (rd l2 x23_1)] rfl (by (try simp only [List.map_toArray, List.map_cons, List.map_nil]); first | done | rfl | (simp only [List.length_drop, List.length_take]; rfl)) ?_; (with_reducible refine (enter_remembers.calls k1 _ _ l0_0 _ _ l0_1 (rd l2 x23_1) true _ ?side1 ?side2 ?side3 ?side4 A15.out).mono ?_); (case side1 => repeat (first | exact (Kd.C_below HR0_0.out HB.out) | (with_reducible refine Kd.C_alloc ?_ _) | (with_reducible refine Kd.C_drewN ?_ _) | (with_reducible refine Kd.C_drew ?_))); (case side2 => exact HC0_0.out); (case side3 => repeat (first | exact (Kd.C_below HR0_1.out HB.out) | (with_reducible refine Kd.C_alloc ?_ _) | (with_reducible refine Kd.C_drewN ?_ _) | (with_reducible refine Kd.C_drew ?_))); (case side4 => exact HC0_1.out); rintro e w22 ⟨rfl, hb⟩; refine ⟨_, rfl, ?_⟩; have n0_ := Aside0.mk (Kd.R_below (by (with_reducible repeat (first | apply Kd.R_alloc | apply Kd.R_drewN | apply Kd.R_drew)); exact HO_9.out) hb); have n1_ := Aside0.mk (blk_below (g := gb101) (o := .cells #[.slice A0_0 l0_0.length c0_0, .slice A0_1 l0_1.length c0_1] 24 (0, 0)) (by (with_reducible repeat (first | refine blk_drewN ?_ _ | refine blk_drew ?_ | refine blk_alloc ?_ _)); exact BK101.out) hb); have n2_ := Aside0.mk (below_step (by repeat (first | (with_reducible first | exact HB.out | apply below_alloc | apply pw_below_drewN | apply below_drew1 | refine below_set ?_ GE101.out) | exact HB.out)) hb); clear HO_9; clear BK101; clear HB; have HO_9 := n0_; have BK101 := n1_; have HB := n2_; clear n0_ n1_ n2_; (try clear hb); (try clear hb2); (try clear hk); (try clear hi); have p19 : 0 ≤ ((rd l2 x23_1) : Int) := of_decide_eq_true (by first | (with_reducible assumption) | assumption); have q19 : ((rd l2 x23_1) : Int) < ((x9_1.length : Int) : Int) := of_decide_eq_true (by first | (with_reducible assumption) | assumption); obtain ⟨go19, co19, eo19, gb19, gl19, cl19, HG19⟩ := Kd.R_form HO_9.out (by omega); (first | cases eo19 | (injection eo19 with ea_ en_ ec_; (first | subst ea_ | (injection ea_ with ea_; subst ea_)); subst ec_; clear en_)); have GB19 := Aside0.mk gb19; have GG19 := Aside0.mk HG19; clear gb19 gl19 HG19; obtain ⟨hx19_0, hf19_0⟩ := Kd.R_celln 0 HO_9.out ((rd l2 x23_1) : Int) p19 q19; replace p19 := eq_true p19; replace q19 := eq_true q19; obtain ⟨hy23_, hz23_⟩ := Kd.R_celln 0 HO_9.out ((rd l2 x23_1) : Int) (of_decide_eq_true (by first | (with_reducible assumption) | assumption)) (of_decide_eq_true (by first | (with_reducible assumption) | assumption)); have HP23 := Kd.R_putg HO_9.out ((rd l2 x23_1) : Int) 0) | ((with_reducible refine gate_store (t := 29) (p := 33) rfl ?_); refine store_event (t := 29) (p := 33) (v := ?vo_w24) (w1 := (w22.setCell ⟨go19, ((rd l2 x23_1) : Int).toNat, none⟩ (.int .u32 0))) ?hg ?ho ?hn ?hr ?_; (case ho => rfl); (case hg => rfl); (case hn => rfl); (case hr => first | (go_simp; done) | (go_simp; rfl)); intro w24 hw; have hg : w22.grownBy w24 (some go19) := (by rw [hw]; exact HP23.2); have hp_ : Kd.R (Kd.int .u32) 29 w24 w.heap.size (fun _ => True) (.slice (some ⟨go19, 0, none⟩) x9_1.length co19) y110 := (by rw [hw, Ny110.out]; exact HP23.1); clear HP23; have n0_ := Aside0.mk (hp_); have n1_ := Aside0.mk (blk_grown (g := gb101) (o := .cells #[.slice A0_0 l0_0.length c0_0, .slice A0_1 l0_1.length c0_1] 24 (0, 0)) (by (with_reducible repeat (first | refine blk_drewN ?_ _ | refine blk_drew ?_ | refine blk_alloc ?_ _)); exact BK101.out) hg (Kd.R_ne HO_9.out BK101.out (by decide))); have n2_ := Aside0.mk ((by rw [hw]; exact below_set (HB.out) GB19.out : Below w.heap.size w w24)); clear HO_9; clear BK101; clear HB; have HO_9 := n0_; have BK101 := n1_; have HB := n2_; clear n0_ n1_ n2_; clear hg hw hp_; have hcz25_0 : w24.cell? ⟨gb101, 0, none⟩ = some (.slice A0_0 l0_0.length c0_0) := (blk_cell BK101.out 0).trans rfl; have hcz25_1 : w24.cell? ⟨gb101, 1, none⟩ = some (.slice A0_1 l0_1.length c0_1) := (blk_cell BK101.out 1).trans rfl; have hfz25_0 := blk_frozen BK101.out 0; have hfz25_1 := blk_frozen BK101.out 1) | ((with_reducible refine gate_callee (f := 49) rfl ?_); refine goesL_ (some 37) rfl rfl Try.func49 (by kernel_rfl) rfl #[.agg #[.slice A0_0 l0_0.length c0_0, .slice A0_1 l0_1.length c0_1], .int .u32 a1, .int .i64 (rd l2 x23_1)] rfl (by (try simp only [List.map_toArray, List.map_cons, List.map_nil]); first | done | rfl | (simp only [List.length_drop, List.length_take]; rfl)) ?_; (with_reducible refine (enter_below.calls k1 _ _ l0_0 _ _ l0_1 a1 (rd l2 x23_1) t111 _ ?side1 ?side2 ?side3 ?side4 A20.out).mono ?_); (case side1 => repeat (first | exact (Kd.C_below HR0_0.out HB.out) | (with_reducible refine Kd.C_alloc ?_ _) | (with_reducible refine Kd.C_drewN ?_ _) | (with_reducible refine Kd.C_drew ?_))); (case side2 => exact HC0_0.out); (case side3 => repeat (first | exact (Kd.C_below HR0_1.out HB.out) | (with_reducible refine Kd.C_alloc ?_ _) | (with_reducible refine Kd.C_drewN ?_ _) | (with_reducible refine Kd.C_drew ?_))); (case side4 => exact HC0_1.out); rintro e w26 ⟨v112, rfl, ho0, hb⟩; refine ⟨_, rfl, ?_⟩; have n0_ := Aside0.mk (Kd.R_below (by (with_reducible repeat (first | apply Kd.R_alloc | apply Kd.R_drewN | apply Kd.R_drew)); exact HO_9.out) hb); have n1_ := Aside0.mk (Kd.R_lower ho0 (below_size (by repeat (first | (with_reducible first | exact HB.out | apply below_alloc | apply pw_below_drewN | apply below_drew1 | refine below_set ?_ GE101.out) | exact HB.out)))); have n2_ := Aside0.mk (blk_below (g := gb101) (o := .cells #[.slice A0_0 l0_0.length c0_0, .slice A0_1 l0_1.length c0_1] 24 (0, 0)) (by (with_reducible repeat (first | refine blk_drewN ?_ _ | refine blk_drew ?_ | refine blk_alloc ?_ _)); exact BK101.out) hb); have n3_ := Aside0.mk (below_step (by repeat (first | (with_reducible first | exact HB.out | apply below_alloc | apply pw_below_drewN | apply below_drew1 | refine below_set ?_ GE101.out) | exact HB.out)) hb); clear HO_9; clear BK101; clear HB; have HO_9 := n0_; have HO113 := n1_; have BK101 := n2_; have HB := n3_; clear n0_ n1_ n2_ n3_; (try clear hb); (try clear hb2); (try clear hk); (try clear hi); (try clear ho0); obtain ⟨Ao27, co27, eo27⟩ := Kd.R_slice HO113.out; subst eo27))
           go_loopg [39] k1 (fun kq v39 w' => ∃ (x9_2 : List Int) (x39_2 : Int), v39 = .int .i64 x39_2 ∧ Aside0 (enter_Remember.l1 kq a1 x9_2 (rd l2 x23_1) l2 (l2.length : Int) x23_1 t111 (t111.length : Int) x39_2 l0_0 l0_1 = some r) ∧ Aside0 (kq ≤ k1) ∧ Aside0 (Kd.R (Kd.int .u32) 29 w' w.heap.size (fun _ => True) (.slice (some ⟨go19, 0, none⟩) x9_1.length co19) x9_2) ∧ Aside0 (Kd.R (Kd.int .i64) 3 w' w.heap.size (fun _ => True) (.slice Ao27 t111.length co27) t111) ∧ Aside0 (w'.heap[gb101]? = some (.cells #[(.slice A0_0 l0_0.length c0_0), (.slice A0_1 l0_1.length c0_1)] 24 (0, 0))) ∧ Aside0 (Below w.heap.size w w'))
           case atStart => exact ⟨(y110), (0), (by first | rfl | (simp; done) | (simp [*]; done)), H', ⟨Nat.le_refl _⟩, ⟨by (with_reducible repeat (first | apply Kd.R_alloc | apply Kd.R_drewN | apply Kd.R_drew)); exact HO_9.out⟩, ⟨by (with_reducible repeat (first | apply Kd.R_alloc | apply Kd.R_drewN | apply Kd.R_drew)); exact HO113.out⟩, ⟨by (with_reducible repeat (first | refine blk_drewN ?_ _ | refine blk_drew ?_ | refine blk_alloc ?_ _)); exact BK101.out⟩, ⟨by repeat (first | (with_reducible first | exact HB.out | apply below_alloc | apply pw_below_drewN | apply below_drew1 | refine below_set ?_ GE101.out) | exact HB.out)⟩⟩
           case round =>
            clear H'
            try clear c1
            try clear p1
            try clear q1
            try clear hx1
            try clear c2
            try clear p2
            try clear c3
            try clear c4
            try clear c5
            try clear c5b0
            try clear c5b1
            try clear c6
            try clear c6b0
            try clear c6b1
            try clear p6
            try clear p10
            try clear q10
            try clear hx10
            try clear c12
            try clear c12b0
            try clear c13
            try clear c13b0
            try clear c14
            try clear c14b0
            try clear c16
            try clear c17
            try clear c17b0
            try clear c18
            try clear c18b0
            try clear p19
            try clear q19
            try clear hx19
            try clear hf19
            try clear c24
            try clear hcz21_0
            try clear hcz21_1
            try clear hcz25_0
            try clear hcz25_1
            try clear hcz8_0
            try clear hcz8_1
            try clear hfz21_0
            try clear hfz21_1
            try clear hfz25_0
            try clear hfz25_1
            try clear hfz8_0
            try clear hfz8_1
            try clear hx108_0
            try clear hx19_0
            try clear p108
            try clear p19
            try clear p2
            try clear q108
            try clear q19
            obtain ⟨x9_2, x39_2, rfl, HA, HK2, HO_9, HO_37, BK101, HB⟩ := hrel
            have hl9_2 := (Kd.R_reads' HO_9.out).1
            rw [hl9_2] at HO_9
            (try simp only [hl9_2])
            (try simp only [hl9_2] at BK101)
            (try simp only [hl9_2] at HO_37)
            cases gk with
            | zero => exact absurd HA.out (by simp [enter_Remember.l1])
            | succ k2 =>
             have H := HA.out
             clear HA
             simp only [enter_Remember.l1] at H
             by_cases c28 : x39_2 < (t111.length : Int)
             ·rw [if_pos c28] at H
              have c28b0 : decide (x39_2 < (t111.length : Int)) = true := decide_eq_true c28
              have c28b0h := c28b0
              (try simp only [hl9_2] at c28b0h)
              clear c28
              by_cases c29 : 0 ≤ x39_2
              ·rw [if_pos c29] at H
               have c29b0 : decide (0 ≤ x39_2) = true := decide_eq_true c29
               clear c29
               by_cases c30 : x39_2 < (t111.length : Int)
               ·rw [if_pos c30] at H
                have c30b0 : decide (x39_2 < (t111.length : Int)) = true := decide_eq_true c30
                have c30b0h := c30b0
                (try simp only [hl9_2] at c30b0h)
                clear c30
                by_cases c31 : 0 ≤ (rd l2 x23_1)
                ·rw [if_pos c31] at H
                 have c31b0 : decide (0 ≤ (rd l2 x23_1)) = true := decide_eq_true c31
                 clear c31
                 by_cases c32 : (rd l2 x23_1) < (x9_2.length : Int)
                 ·rw [if_pos c32] at H
                  have c32b0 : decide ((rd l2 x23_1) < (x9_2.length : Int)) = true := decide_eq_true c32
                  have c32b0h := c32b0
                  (try simp only [hl9_2] at c32b0h)
                  clear c32
                  by_cases c33 : 0 ≤ (rd t111 x39_2)
                  ·rw [if_pos c33] at H
                   have c33b0 := eq_true c33
                   have c33b1 : decide (0 ≤ (rd t111 x39_2)) = true := decide_eq_true c33
                   clear c33
                   obtain ⟨ji34, hji34⟩ : ∃ j_ : Int, (shl .u32 1 (rd t111 x39_2)) = j_ := ⟨_, rfl⟩
                   replace H : (enter_Remember.l1 k2 a1 (x9_2.set ((rd l2 x23_1) : Int).toNat (Go.bits .or .u32 (rd x9_2 (rd l2 x23_1)) (ji34))) (rd l2 x23_1) l2 (l2.length : Int) x23_1 t111 (t111.length : Int) (wrap64 (x39_2 + 1)) l0_0 l0_1) = some r := by first | (rw [hji34] at H; exact H) | (simp only [hji34] at H ⊢; exact H)
                   have hji34_ : (IntKind.u32.wrap (1 * 2 ^ min (rd t111 x39_2).toNat 32)) = ji34 := hji34
                   have hji34z : (rd t111 x39_2) ≤ 32 → (IntKind.u32.wrap (1 * 2 ^ (rd t111 x39_2).toNat)) = ji34 := shl_small hji34
                   have hji34u : (IntKind.u32.wrap (2 ^ min (rd t111 x39_2).toNat 32)) = ji34 := by have h_ := hji34_; rw [Int.one_mul] at h_; exact h_
                   have hji34v : (rd t111 x39_2) ≤ 32 → (IntKind.u32.wrap (2 ^ (rd t111 x39_2).toNat)) = ji34 := fun hle_ => by have h_ := hji34z hle_; rw [Int.one_mul] at h_; exact h_
                   obtain ⟨y116, hy116⟩ : ∃ y_ : List Int, y_ = (x9_2.set ((rd l2 x23_1) : Int).toNat (Go.bits .or .u32 (rd x9_2 (rd l2 x23_1)) (ji34))) := ⟨_, rfl⟩
                   replace H : (enter_Remember.l1 k2 a1 y116 (rd l2 x23_1) l2 (l2.length : Int) x23_1 t111 (t111.length : Int) (wrap64 (x39_2 + 1)) l0_0 l0_1) = some r := by first | (rw [hy116]; with_reducible exact H) | (have H2_ := (Option.bind_some _ _).symm.trans H; rw [hy116]; with_reducible exact H2_) | (have H2_ := (Option.bind_some _ _).symm.trans H; with_reducible exact H2_) | with_reducible exact H | (rw [hy116]; exact H) | exact H
                   have Ny116 := Aside0.mk hy116
                   clear hy116
                   have H' := Aside0.mk H
                   clear H
                   have p114 : 0 ≤ (x39_2 : Int) := of_decide_eq_true (by first | (with_reducible assumption) | assumption)
                   have q114 : x39_2 < (t111.length : Int) := of_decide_eq_true (by first | (with_reducible assumption) | assumption)
                   obtain ⟨ad114, e114, hx114_0⟩ := Kd.at_int (Kd.R_reads' HO_37.out).2.2 x39_2 p114 q114
                   cases e114
                   replace p114 := eq_true p114
                   replace q114 := eq_true q114
                   try go_wp2
                   have n0_ := Aside0.mk (Kd.R_drew HO_9.out)
                   have n1_ := Aside0.mk (Kd.R_drew HO_37.out)
                   have n2_ := Aside0.mk (blk_drew BK101.out)
                   have n3_ := Aside0.mk (below_drew1 HB.out)
                   clear HO_9
                   clear HO_37
                   clear BK101
                   clear HB
                   have HO_9 := n0_
                   have HO_37 := n1_
                   have BK101 := n2_
                   have HB := n3_
                   clear n0_ n1_ n2_ n3_
                   have p115 : 0 ≤ ((rd l2 x23_1) : Int) := of_decide_eq_true (by first | (with_reducible assumption) | assumption)
                   have q115 : (rd l2 x23_1) < (x9_2.length : Int) := of_decide_eq_true (by first | (with_reducible assumption) | assumption)
                   obtain ⟨ad115, e115, hx115_0⟩ := Kd.at_int (Kd.R_reads' HO_9.out).2.2 (rd l2 x23_1) p115 q115
                   obtain rfl : (⟨go19, 0, none⟩ : Addr) = ad115 := (by injection e115)
                   (first | simp only [add_plain] at hx115_0 | simp only [add_at] at hx115_0 | simp only [Addr.add, Nat.zero_add] at hx115_0 | skip)
                   replace p115 := eq_true p115
                   replace q115 := eq_true q115
                   have p35 : 0 ≤ ((rd l2 x23_1) : Int) := of_decide_eq_true (by first | (with_reducible assumption) | assumption)
                   have q35 : ((rd l2 x23_1) : Int) < ((x9_2.length : Int) : Int) := of_decide_eq_true (by first | (with_reducible assumption) | assumption)
                   obtain ⟨hx35_0, hf35_0⟩ := Kd.R_celln 0 HO_9.out ((rd l2 x23_1) : Int) p35 q35
                   replace p35 := eq_true p35
                   replace q35 := eq_true q35
                   have HP37 := Kd.R_putn HO_9.out ((rd l2 x23_1) : Int) (Go.bits .or .u32 (rd x9_2 (rd l2 x23_1)) (ji34))
                   rw [← Ny116.out] at HP37
                   have HQ37 := Aside0.mk HP37
                   clear HP37
                   obtain ⟨_, hgg37⟩ := Kd.R_typed HO_9.out go19 rfl
                   have GG37_ := Aside0.mk hgg37
                   clear hgg37
                   refine start_ (n := 11) (S := fun w' => w'.cell? ⟨go19, ((rd l2 x23_1)).toNat, none⟩ = some (.int .u32 (rd x9_2 (rd l2 x23_1)))) (ds := [10]) #[false, false, false, false, false, false, false, false, false, false, false] (by kernel_rfl) rfl rfl (hx115_0) (fun hHeld => ?_); refine with_tabW enter_Remember.tab11 enter_Remember.bits11 (fun HT_ HW_ => ?_)
                   generalize wr.drew = w36 at HO_9 HO_37 BK101 HB GG37_ HQ37 hf35_0 hx115_0 hx35_0 hHeld ⊢
                   refine pure_ (i := 0) (N := some 43) (v := ?_) (a' := ?_) #[true, false, false, false, false, false, false, false, false, false, false] rfl rfl (any_of HT_.out (by kernel_rfl)) (fun _ _ _ h => h) (Or.inl ⟨by rfl, ?_⟩) ?_ ?_
                   rotate_left
                   ·intro w'
                    go_simp
                    with_reducible rfl
                   rotate_left
                   ·simp only [Act.put, List.setIfInBounds_toArray, List.set_cons_zero, List.set_cons_succ, i64_w, i32_w]
                    rfl
                   refine pure_ (i := 1) (N := some 44) (v := ?_) (a' := ?_) #[true, true, false, false, false, false, false, false, false, false, false] rfl rfl (any_of HT_.out (by kernel_rfl)) (fun _ _ _ h => h) (Or.inl ⟨by rfl, ?_⟩) ?_ ?_
                   rotate_left
                   ·intro w'
                    go_simp
                    with_reducible rfl
                   rotate_left
                   ·simp only [Act.put, List.setIfInBounds_toArray, List.set_cons_zero, List.set_cons_succ, i64_w, i32_w]
                    rfl
                   refine pure_ (i := 2) (N := some 45) (v := ?_) (a' := ?_) #[true, true, true, false, false, false, false, false, false, false, false] rfl rfl (any_of HT_.out (by kernel_rfl)) (fun _ _ _ h => h) (Or.inl ⟨by rfl, ?_⟩) ?_ ?_
                   rotate_left
                   ·intro w'
                    go_simp
                    with_reducible rfl
                   rotate_left
                   ·simp only [Act.put, List.setIfInBounds_toArray, List.set_cons_zero, List.set_cons_succ, i64_w, i32_w]
                    rfl
                   refine pure_ (i := 3) (N := some 46) (v := ?_) (a' := ?_) #[true, true, true, true, false, false, false, false, false, false, false] rfl rfl (any_of HT_.out (by kernel_rfl)) (fun _ _ _ h => h) (Or.inl ⟨by rfl, ?_⟩) ?_ ?_
                   rotate_left
                   ·intro w'
                    go_simp
                    with_reducible rfl
                   rotate_left
                   ·simp only [Act.put, List.setIfInBounds_toArray, List.set_cons_zero, List.set_cons_succ, i64_w, i32_w]
                    rfl
                   refine pure_ (i := 4) (N := some 47) (v := ?_) (a' := ?_) #[true, true, true, true, true, false, false, false, false, false, false] rfl rfl (any_of HT_.out (by kernel_rfl)) (fun _ _ _ h => h) (Or.inl ⟨by rfl, ?_⟩) ?_ ?_
                   rotate_left
                   ·intro w'
                    go_simp
                    with_reducible rfl
                   rotate_left
                   ·simp only [Act.put, List.setIfInBounds_toArray, List.set_cons_zero, List.set_cons_succ, i64_w, i32_w]
                    rfl
                   refine pure_ (i := 6) (N := some 49) (v := ?_) (a' := ?_) #[true, true, true, true, true, false, true, false, false, false, false] rfl rfl (any_of HT_.out (by kernel_rfl)) (fun _ _ _ h => h) (Or.inl ⟨by rfl, ?_⟩) ?_ ?_
                   rotate_left
                   ·intro w'
                    go_simp
                    with_reducible rfl
                   rotate_left
                   ·simp only [Act.put, List.setIfInBounds_toArray, List.set_cons_zero, List.set_cons_succ, i64_w, i32_w]
                    rfl
                   refine pure_ (i := 7) (N := some 50) (v := ?_) (a' := ?_) #[true, true, true, true, true, false, true, true, false, false, false] rfl rfl (any_of HT_.out (by kernel_rfl)) (fun _ _ _ h => h) (Or.inl ⟨by rfl, ?_⟩) ?_ ?_
                   rotate_left
                   ·intro w'
                    go_simp
                    with_reducible rfl
                   rotate_left
                   ·simp only [Act.put, List.setIfInBounds_toArray, List.set_cons_zero, List.set_cons_succ, i64_w, i32_w]
                    rfl
                   refine take_ (i := 5) (N := some 48) (v := ?_) (a' := ?_) #[true, true, true, true, true, true, true, true, false, false, false] rfl rfl (take_ofW HT_.out HW_.out (by kernel_rfl)) (fun _ _ _ h => h) (Or.inl ⟨by rfl, ?_⟩) hHeld ?_ ?_
                   rotate_left
                   ·intro w' s0
                    go_simp
                    with_reducible rfl
                   rotate_left
                   ·simp only [Act.put, List.setIfInBounds_toArray, List.set_cons_zero, List.set_cons_succ, i64_w, i32_w]
                    rfl
                   refine pure_ (i := 8) (N := some 51) (v := ?_) (a' := ?_) #[true, true, true, true, true, true, true, true, true, false, false] rfl rfl (any_of HT_.out (by kernel_rfl)) (fun _ _ _ h => h) (Or.inl ⟨by rfl, ?_⟩) ?_ ?_
                   rotate_left
                   ·intro w'
                    go_simp
                    with_reducible rfl
                   rotate_left
                   ·simp only [Act.put, List.setIfInBounds_toArray, List.set_cons_zero, List.set_cons_succ, i64_w, i32_w]
                    rfl
                   refine pure_ (i := 9) (N := some 52) (v := ?_) (a' := ?_) #[true, true, true, true, true, true, true, true, true, true, false] rfl rfl (any_of HT_.out (by kernel_rfl)) (fun _ _ _ h => h) (Or.inl ⟨by rfl, ?_⟩) ?_ ?_
                   rotate_left
                   ·intro w'
                    go_simp
                    with_reducible rfl
                   rotate_left
                   ·simp only [Act.put, List.setIfInBounds_toArray, List.set_cons_zero, List.set_cons_succ, i64_w, i32_w]
                    rfl
                   refine last_ (i := 10) (N := none) #[true, true, true, true, true, true, true, true, true, true, true] rfl rfl (one_of HT_.out (by kernel_rfl)) (by decide) (fun K hK => ?_)
                   refine skip_ (w1 := ?_) (by rfl) rfl ?_ ?_
                   rotate_left
                   ·go_simp
                    rfl
                   refine hK.out _ _ ?_
                   clear hK K
                   refine done_ (done_of HT_.out (by kernel_rfl)) ?_
                   try go_wp2
                   (try simp only [← hl9_2])
                   go_roundg k2
                   case measure => have := HK1.out; have := HK2.out; omega
                   case rel => exact ⟨(y116), (wrap64 (x39_2 + 1)), (by first | rfl | (simp; done) | (simp [*]; done)), (by first | exact H' | exact ⟨by simp only [hji34]; exact H'.out⟩), ⟨by have := HK1.out; have := HK2.out; omega⟩, ⟨by (try simp only [hl9_2]); (with_reducible repeat (first | apply Kd.R_alloc | apply Kd.R_drewN | apply Kd.R_drew)); exact HQ37.out⟩, ⟨by (try simp only [hl9_2]); (with_reducible repeat (first | apply Kd.R_alloc | apply Kd.R_drewN | apply Kd.R_drew)); exact Kd.R_mono (Kd.R_far (p := ⟨go19, ((rd l2 x23_1) : Int).toNat, none⟩) (Kd.R_types HO_37.out GG37_.out (by decide)) (fun _ hk => hk.2) (.int .u32 (Go.bits .or .u32 (rd x9_2 (rd l2 x23_1)) (ji34)))) (fun _ hk => trivial)⟩, ⟨by (try simp only [hl9_2]); (with_reducible repeat (first | refine blk_drewN ?_ _ | refine blk_drew ?_ | refine blk_alloc ?_ _)); refine blk_far ?_ (by have h_ := Kd.R_ne HO_9.out BK101.out (by decide); intro e_; exact h_ (by rw [e_]; rfl)) _; (with_reducible repeat (first | refine blk_drewN ?_ _ | refine blk_drew ?_ | refine blk_alloc ?_ _)); exact BK101.out⟩, ⟨by repeat (first | (with_reducible first | exact HB.out | apply below_alloc | apply pw_below_drewN | apply below_drew1 | refine below_set ?_ GB19.out | refine below_set ?_ GE101.out) | exact HB.out)⟩⟩
                  ·rw [if_neg c33] at H
                   exact absurd H (by simp)
                 ·rw [if_neg c32] at H
                  exact absurd H (by simp)
                ·rw [if_neg c31] at H
                 exact absurd H (by simp)
               ·rw [if_neg c30] at H
                exact absurd H (by simp)
              ·rw [if_neg c29] at H
               exact absurd H (by simp)
             ·rw [if_neg c28] at H
              have c28b0 : decide (x39_2 < (t111.length : Int)) = false := decide_eq_false c28
              have c28b0h := c28b0
              (try simp only [hl9_2] at c28b0h)
              clear c28
              have H' := Aside0.mk H
              clear H
              go_wp2
              (try simp only [← hl9_2])
              go_roundg k2
              case measure => have := HK1.out; have := HK2.out; omega
              case rel => exact ⟨(x9_2), (wrap64 (x23_1 + 1)), (by first | rfl | (simp; done) | (simp [*]; done)), H', ⟨by have := HK1.out; have := HK2.out; omega⟩, ⟨by (try simp only [hl9_2]); (with_reducible repeat (first | apply Kd.R_alloc | apply Kd.R_drewN | apply Kd.R_drew)); exact HO_9.out⟩, ⟨by (try simp only [hl9_2]); (with_reducible repeat (first | refine blk_drewN ?_ _ | refine blk_drew ?_ | refine blk_alloc ?_ _)); exact BK101.out⟩, ⟨by repeat (first | (with_reducible first | exact HB.out | apply below_alloc | apply pw_below_drewN | apply below_drew1 | refine below_set ?_ GE101.out) | exact HB.out)⟩⟩
          ·rw [if_neg c18] at H
           exact absurd H (by simp)
         ·rw [if_neg c17] at H
          exact absurd H (by simp)
        ·replace c16 := Bool.eq_false_iff.mpr c16
         subst c16
         have H1 : (enter_Remember.l0 k1 a1 x9_1 l2 (l2.length : Int) (wrap64 (x23_1 + 1)) l0_0 l0_1) = some r := by rw [if_neg (show ¬ (false = true) by decide)] at H; exact H
         clear H
         have H := H1
         clear H1
         have H' := Aside0.mk H
         clear H
         have p108 : 0 ≤ (x23_1 : Int) := of_decide_eq_true (by first | (with_reducible assumption) | assumption)
         have q108 : x23_1 < (l2.length : Int) := of_decide_eq_true (by first | (with_reducible assumption) | assumption)
         obtain ⟨ad108, e108, hx108_0⟩ := Kd.at_int HR2.out x23_1 p108 q108
         cases e108
         replace hx108_0 := (HB.out.cell (World.block_lt_of_cell? w _ hx108_0)).trans hx108_0
         replace p108 := eq_true p108
         replace q108 := eq_true q108
         have hcz38_0 : wr.cell? ⟨gb101, 0, none⟩ = some (.slice A0_0 l0_0.length c0_0) := (blk_cell BK101.out 0).trans rfl
         have hcz38_1 : wr.cell? ⟨gb101, 1, none⟩ = some (.slice A0_1 l0_1.length c0_1) := (blk_cell BK101.out 1).trans rfl
         have hfz38_0 := blk_frozen BK101.out 0
         have hfz38_1 := blk_frozen BK101.out 1
         go_wp2_with (first | ((with_reducible refine gate_callee (f := 50) rfl ?_); refine goesL_ (some 29) rfl rfl Try.func50 (by kernel_rfl) rfl #[.agg #[.slice A0_0 l0_0.length c0_0, .slice A0_1 l0_1.length c0_1], .int .i64 (rd l2 x23_1)] rfl (by (try simp only [List.map_toArray, List.map_cons, List.map_nil]); first | done | rfl | (simp only [List.length_drop, List.length_take]; rfl)) ?_; (with_reducible refine (enter_remembers.calls k1 _ _ l0_0 _ _ l0_1 (rd l2 x23_1) false _ ?side1 ?side2 ?side3 ?side4 A15.out).mono ?_); (case side1 => repeat (first | exact (Kd.C_below HR0_0.out HB.out) | (with_reducible refine Kd.C_alloc ?_ _) | (with_reducible refine Kd.C_drewN ?_ _) | (with_reducible refine Kd.C_drew ?_))); (case side2 => exact HC0_0.out); (case side3 => repeat (first | exact (Kd.C_below HR0_1.out HB.out) | (with_reducible refine Kd.C_alloc ?_ _) | (with_reducible refine Kd.C_drewN ?_ _) | (with_reducible refine Kd.C_drew ?_))); (case side4 => exact HC0_1.out); rintro e w39 ⟨rfl, hb⟩; refine ⟨_, rfl, ?_⟩; have n0_ := Aside0.mk (Kd.R_below (by (with_reducible repeat (first | apply Kd.R_alloc | apply Kd.R_drewN | apply Kd.R_drew)); exact HO_9.out) hb); have n1_ := Aside0.mk (blk_below (g := gb101) (o := .cells #[.slice A0_0 l0_0.length c0_0, .slice A0_1 l0_1.length c0_1] 24 (0, 0)) (by (with_reducible repeat (first | refine blk_drewN ?_ _ | refine blk_drew ?_ | refine blk_alloc ?_ _)); exact BK101.out) hb); have n2_ := Aside0.mk (below_step (by repeat (first | (with_reducible first | exact HB.out | apply below_alloc | apply pw_below_drewN | apply below_drew1 | refine below_set ?_ GE101.out) | exact HB.out)) hb); clear HO_9; clear BK101; clear HB; have HO_9 := n0_; have BK101 := n1_; have HB := n2_; clear n0_ n1_ n2_; (try clear hb); (try clear hb2); (try clear hk); (try clear hi)))
         go_roundg k1
         case measure => have := HK1.out; omega
         case rel => exact ⟨(x9_1), (wrap64 (x23_1 + 1)), (by first | rfl | (simp; done) | (simp [*]; done)), H', ⟨by have := HK1.out; omega⟩, ⟨by (with_reducible repeat (first | apply Kd.R_alloc | apply Kd.R_drewN | apply Kd.R_drew)); exact HO_9.out⟩, ⟨by (with_reducible repeat (first | refine blk_drewN ?_ _ | refine blk_drew ?_ | refine blk_alloc ?_ _)); exact BK101.out⟩, ⟨by repeat (first | (with_reducible first | exact HB.out | apply below_alloc | apply pw_below_drewN | apply below_drew1 | refine below_set ?_ GE101.out) | exact HB.out)⟩⟩
       ·rw [if_neg c14] at H
        exact absurd H (by simp)
      ·rw [if_neg c13] at H
       exact absurd H (by simp)
     ·rw [if_neg c12] at H
      have c12b0 : decide (x23_1 < (l2.length : Int)) = false := decide_eq_false c12
      clear c12
      obtain rfl := Option.some.inj H
      go_wp2
      go_ret
      exact ⟨_, by first | rfl | (simp [errW_none, errW_some] <;> rfl) | (simp [*, errW_none, errW_some] <;> rfl), by (with_reducible repeat (first | apply Kd.R_alloc | apply Kd.R_drewN | apply Kd.R_drew)); exact HO_9.out, by repeat (first | (with_reducible first | exact HB.out | apply below_alloc | apply pw_below_drewN | apply below_drew1 | refine below_set ?_ GE101.out) | exact HB.out)⟩
  ·rw [if_neg c6] at H
   exact absurd H (by simp)
 ·rw [if_neg c5] at H
  exact absurd H (by simp)
end Go.Proofs.Ytnomeokicfpidaa.Q
namespace Go.Proofs.Ytnomeokicfpidaa.Q
open Go.RowKit Go.Proofs.YtnomeokicfpidaaW.PrintWords Go.Proofs.YtnomeokicfpidaaW.PrintLast Go.Proofs.YtnomeokicfpidaaW.PrintMore
attribute [local go_sem] max2_int min2_int max_two min_two max_three min_three max_four min_four
set_option linter.unusedVariables false
set_option linter.unusedSimpArgs false
def imprimaturlaw07_bits.l0 : Nat → Int → List Int → Int → Int → Option (Int)
 | 0, _, _, _, _ => none
 | k + 1, x3, x6, x7, x8 => if x8 < x7 then (if 0 ≤ x8 then (if x8 < (x6.length : Int) then (if (rd x6 x8) ≥ 0 then (if (rd x6 x8) < 32 then (if 0 ≤ (IntKind.u64.wrap (rd x6 x8)) then (imprimaturlaw07_bits.l0 k (Go.bits .or .u32 x3 (shl .u32 1 (IntKind.u64.wrap (rd x6 x8)))) x6 x7 (wrap64 (x8 + 1))) else (none)) else (imprimaturlaw07_bits.l0 k x3 x6 x7 (wrap64 (x8 + 1)))) else (imprimaturlaw07_bits.l0 k x3 x6 x7 (wrap64 (x8 + 1)))) else (none)) else (none)) else (some x3)
def imprimaturlaw07_bits.f (k : Nat) (l0 : List Int) : Option (Int) := imprimaturlaw07_bits.l0 k 0 l0 (l0.length : Int) 0
set_option maxHeartbeats 8000000 in
set_option maxRecDepth 100000 in
theorem imprimaturlaw07_bits.calls (k : Nat) (A0 : Option Addr) (c0 : Nat) (l0 : List Int) (r : Int) (w : World) (hr0 : Kd.C (Kd.int .i64) w A0 l0.length l0) (hc0 : l0.length ≤ c0) (h : imprimaturlaw07_bits.f k l0 = some r) :
  Calls Try.prog 26 #[.slice A0 l0.length c0] w fun e w' => e = .returned (.int .u32 r) ∧ Drawn0 w w' := by
 have HR0 := Aside0.mk hr0
 have HC0 := Aside0.mk hc0
 clear hr0 hc0
 have H : (imprimaturlaw07_bits.l0 k 0 l0 (l0.length : Int) 0) = some r := h
 clear h
 have H' := Aside0.mk H
 clear H
 go_enter Try.func26, Try.ntmps26
 go_wp2
 go_loopg [3, 8] k (fun kq v3 v8 w' => ∃ (x3_1 : Int) (x8_1 : Int), v3 = .int .u32 x3_1 ∧ v8 = .int .i64 x8_1 ∧ Aside0 (imprimaturlaw07_bits.l0 kq x3_1 l0 (l0.length : Int) x8_1 = some r) ∧ Aside0 (kq ≤ k) ∧ Drawn0 w w')
 case atStart => exact ⟨(0), (0), (by first | rfl | (simp; done) | (simp [*]; done)), (by first | rfl | (simp; done) | (simp [*]; done)), H', ⟨Nat.le_refl _⟩, by repeat (first | exact Drawn0.refl _ | apply Drawn0.step)⟩
 case round =>
  clear H'
  obtain ⟨x3_1, x8_1, rfl, rfl, HA, HK1, ⟨m1, rfl⟩⟩ := hrel
  cases gk with
  | zero => exact absurd HA.out (by simp [imprimaturlaw07_bits.l0])
  | succ k1 =>
   have H := HA.out
   clear HA
   simp only [imprimaturlaw07_bits.l0] at H
   by_cases c2 : x8_1 < (l0.length : Int)
   ·rw [if_pos c2] at H
    have c2b0 : decide (x8_1 < (l0.length : Int)) = true := decide_eq_true c2
    clear c2
    by_cases c3 : 0 ≤ x8_1
    ·rw [if_pos c3] at H
     have c3b0 : decide (0 ≤ x8_1) = true := decide_eq_true c3
     clear c3
     by_cases c4 : x8_1 < (l0.length : Int)
     ·rw [if_pos c4] at H
      have c4b0 : decide (x8_1 < (l0.length : Int)) = true := decide_eq_true c4
      clear c4
      by_cases c5 : (rd l0 x8_1) ≥ 0
      ·rw [if_pos c5] at H
       have c5b0 : decide (0 ≤ (rd l0 x8_1)) = true := decide_eq_true c5
       clear c5
       by_cases c6 : (rd l0 x8_1) < 32
       ·rw [if_pos c6] at H
        have c6b0 : decide ((rd l0 x8_1) < 32) = true := decide_eq_true c6
        clear c6
        obtain ⟨ji7, hji7⟩ : ∃ j_ : Int, (IntKind.u64.wrap (rd l0 x8_1)) = j_ := ⟨_, rfl⟩
        replace H : (if 0 ≤ (ji7) then (imprimaturlaw07_bits.l0 k1 (Go.bits .or .u32 x3_1 (shl .u32 1 (ji7))) l0 (l0.length : Int) (wrap64 (x8_1 + 1))) else (none)) = some r := by first | (rw [hji7] at H; exact H) | (simp only [hji7] at H ⊢; exact H)
        by_cases c8 : 0 ≤ (ji7)
        ·rw [if_pos c8] at H
         have c8b0 := eq_true c8
         have c8b1 : decide (0 ≤ (ji7)) = true := decide_eq_true c8
         clear c8
         obtain ⟨ji9, hji9⟩ : ∃ j_ : Int, (shl .u32 1 (ji7)) = j_ := ⟨_, rfl⟩
         replace H : (imprimaturlaw07_bits.l0 k1 (Go.bits .or .u32 x3_1 (ji9)) l0 (l0.length : Int) (wrap64 (x8_1 + 1))) = some r := by first | (rw [hji9] at H; exact H) | (simp only [hji9] at H ⊢; exact H)
         have hji9_ : (IntKind.u32.wrap (1 * 2 ^ min (ji7).toNat 32)) = ji9 := hji9
         have hji9z : (ji7) ≤ 32 → (IntKind.u32.wrap (1 * 2 ^ (ji7).toNat)) = ji9 := shl_small hji9
         have hji9u : (IntKind.u32.wrap (2 ^ min (ji7).toNat 32)) = ji9 := by have h_ := hji9_; rw [Int.one_mul] at h_; exact h_
         have hji9v : (ji7) ≤ 32 → (IntKind.u32.wrap (2 ^ (ji7).toNat)) = ji9 := fun hle_ => by have h_ := hji9z hle_; rw [Int.one_mul] at h_; exact h_
         have H' := Aside0.mk H
         clear H
         have p101 : 0 ≤ (x8_1 : Int) := of_decide_eq_true (by first | (with_reducible assumption) | assumption)
         have q101 : x8_1 < (l0.length : Int) := of_decide_eq_true (by first | (with_reducible assumption) | assumption)
         obtain ⟨ad101, e101, hx101_0⟩ := Kd.at_int HR0.out x8_1 p101 q101
         cases e101
         replace p101 := eq_true p101
         replace q101 := eq_true q101
         go_wp2
         go_roundg k1
         case measure => have := HK1.out; omega
         case rel => exact ⟨(Go.bits .or .u32 x3_1 (ji9)), (wrap64 (x8_1 + 1)), (by first | rfl | (simp; done) | (simp only [← hji9] <;> (first | rfl | simp)) | (simp [*]; done)), (by first | rfl | (simp; done) | (simp [*]; done)), (by first | exact H' | exact ⟨by simp only [hji7, hji9]; exact H'.out⟩), ⟨by have := HK1.out; omega⟩, by repeat (first | exact Drawn0.refl _ | apply Drawn0.step)⟩
        ·rw [if_neg c8] at H
         exact absurd H (by simp)
       ·rw [if_neg c6] at H
        have c6b0 : decide ((rd l0 x8_1) < 32) = false := decide_eq_false c6
        clear c6
        have H' := Aside0.mk H
        clear H
        have p101 : 0 ≤ (x8_1 : Int) := of_decide_eq_true (by first | (with_reducible assumption) | assumption)
        have q101 : x8_1 < (l0.length : Int) := of_decide_eq_true (by first | (with_reducible assumption) | assumption)
        obtain ⟨ad101, e101, hx101_0⟩ := Kd.at_int HR0.out x8_1 p101 q101
        cases e101
        replace p101 := eq_true p101
        replace q101 := eq_true q101
        go_wp2
        go_roundg k1
        case measure => have := HK1.out; omega
        case rel => exact ⟨(x3_1), (wrap64 (x8_1 + 1)), (by first | rfl | (simp; done) | (simp [*]; done)), (by first | rfl | (simp; done) | (simp [*]; done)), H', ⟨by have := HK1.out; omega⟩, by repeat (first | exact Drawn0.refl _ | apply Drawn0.step)⟩
      ·rw [if_neg c5] at H
       have c5b0 : decide (0 ≤ (rd l0 x8_1)) = false := decide_eq_false c5
       clear c5
       have H' := Aside0.mk H
       clear H
       have p101 : 0 ≤ (x8_1 : Int) := of_decide_eq_true (by first | (with_reducible assumption) | assumption)
       have q101 : x8_1 < (l0.length : Int) := of_decide_eq_true (by first | (with_reducible assumption) | assumption)
       obtain ⟨ad101, e101, hx101_0⟩ := Kd.at_int HR0.out x8_1 p101 q101
       cases e101
       replace p101 := eq_true p101
       replace q101 := eq_true q101
       go_wp2
       go_roundg k1
       case measure => have := HK1.out; omega
       case rel => exact ⟨(x3_1), (wrap64 (x8_1 + 1)), (by first | rfl | (simp; done) | (simp [*]; done)), (by first | rfl | (simp; done) | (simp [*]; done)), H', ⟨by have := HK1.out; omega⟩, by repeat (first | exact Drawn0.refl _ | apply Drawn0.step)⟩
     ·rw [if_neg c4] at H
      exact absurd H (by simp)
    ·rw [if_neg c3] at H
     exact absurd H (by simp)
   ·rw [if_neg c2] at H
    have c2b0 : decide (x8_1 < (l0.length : Int)) = false := decide_eq_false c2
    clear c2
    obtain rfl := Option.some.inj H
    go_wp2
    go_ret
    exact ⟨by first | rfl | (simp; done) | (simp [*]; done), by repeat (first | exact Drawn0.refl _ | apply Drawn0.step)⟩
end Go.Proofs.Ytnomeokicfpidaa.Q
namespace Go.Proofs.Ytnomeokicfpidaa.M
open Go.RowKit Go.Proofs.YtnomeokicfpidaaW.PrintWords Go.Proofs.YtnomeokicfpidaaW.PrintLast Go.Proofs.YtnomeokicfpidaaW.PrintMore
set_option linter.unusedVariables false
theorem w64 {x : Int} (h0 : -9223372036854775808 ≤ x) (h1 : x ≤ 9223372036854775807) : wrap64 x = x := by unfold wrap64; omega
theorem w1 (i : Nat) (h : i < 4611686018427387904) : wrap64 ((i : Int) + 1) = ((i + 1 : Nat) : Int) := by rw [w64 (by omega) (by omega)]; omega
theorem rd_nat (xs : List Int) (i : Nat) : rd xs (i : Int) = xs.getD i 0 := by simp [rd]
theorem Ev.st {α : Type} {g f : Nat → Option α} {r : α} (k : Ev f r) (h : ∀ k, g (k + 1) = f k) : Ev g r := Ev.step h k
theorem Ev.ret {α : Type} {g : Nat → Option α} {r : α} (h : ∀ k, g (k + 1) = some r) : Ev g r := Ev.step (f := fun _ => some r) h (Ev.now r)
theorem Ev.cg {α : Type} {g f : Nat → Option α} {r : α} (k : Ev f r) (h : ∀ k, g k = f k) : Ev g r := Ev.congr h k
theorem Ev.bd {α β : Type} {g : Nat → Option α} {f : Nat → α → Option β} {a : α} {r : β} (h : Ev g a) (k : Ev (fun n => f n a) r) : Ev (fun n => (g n).bind (fun x => f n x)) r := Ev.bind h k
theorem Ev.som {α β : Type} {f : Nat → α → Option β} {a : α} {r : β} (k : Ev (fun n => f n a) r) : Ev (fun n => (some a).bind (fun x => f n x)) r := k
theorem Ev.pos {α : Type} {c : Prop} [Decidable c] {f g : Nat → Option α} {r : α} (h : c) (k : Ev f r) : Ev (fun n => if c then f n else g n) r := by simpa [h] using k
theorem Ev.neg {α : Type} {c : Prop} [Decidable c] {f g : Nat → Option α} {r : α} (h : ¬ c) (k : Ev g r) : Ev (fun n => if c then f n else g n) r := by simpa [h] using k
theorem Ev.ite {α : Type} {c : Prop} [Decidable c] {f g : Nat → Option α} {r s : α} (k : c → Ev f r) (l : ¬ c → Ev g s) : Ev (fun n => if c then f n else g n) (if c then r else s) := by
 by_cases h : c
 ·simpa [h] using k h
 ·simpa [h] using l h
theorem Ev.val {α : Type} {g : Nat → Option α} {r s : α} (h : Ev g r) (e : r = s) : Ev g s := e ▸ h
end Go.Proofs.Ytnomeokicfpidaa.M
namespace Go.Proofs.Ytnomeokicfpidaa.Q
open Go.RowKit Go.Proofs.YtnomeokicfpidaaW.PrintWords Go.Proofs.YtnomeokicfpidaaW.PrintLast Go.Proofs.YtnomeokicfpidaaW.PrintMore
attribute [local go_sem] max2_int min2_int max_two min_two max_three min_three max_four min_four
set_option linter.unusedVariables false
set_option linter.unusedSimpArgs false
def shape_solid.f (a0 : Int) : Option (Bool) := if a0 = 1 then (some true) else (some (a0 == 2))
set_option maxHeartbeats 8000000 in
set_option maxRecDepth 100000 in
theorem shape_solid.calls (a0 : Int) (r : Bool) (w : World) (h : shape_solid.f a0 = some r) :
  Calls Try.prog 45 #[.int .i64 a0] w fun e w' => e = .returned (.bool r) ∧ Drawn0 w w' := by
 have H : (if a0 = 1 then (some true) else (some (a0 == 2))) = some r := h
 clear h
 by_cases c2 : a0 = 1
 ·rw [if_pos c2] at H
  have c2b0 : (a0 == 1) = true := beq_iff_eq.mpr c2
  have c2b1 : (a0 != 1) = false := bne_eq_false_iff_eq.mpr c2
  clear c2
  obtain rfl := Option.some.inj H
  go_enter Try.func45, Try.ntmps45
  go_wp2
  go_ret
  exact ⟨by first | rfl | (simp; done) | (simp [*]; done), by repeat (first | exact Drawn0.refl _ | apply Drawn0.step)⟩
 ·rw [if_neg c2] at H
  have c2b0 : (a0 == 1) = false := beq_eq_false_iff_ne.mpr c2
  have c2b1 : (a0 != 1) = true := bne_iff_ne.mpr c2
  obtain rfl := Option.some.inj H
  go_enter Try.func45, Try.ntmps45
  go_wp2
  go_ret
  exact ⟨by first | rfl | (simp; done) | (simp [*]; done), by repeat (first | exact Drawn0.refl _ | apply Drawn0.step)⟩
end Go.Proofs.Ytnomeokicfpidaa.Q
namespace Go.Proofs.Ytnomeokicfpidaa.Q
open Go.RowKit Go.Proofs.YtnomeokicfpidaaW.PrintWords Go.Proofs.YtnomeokicfpidaaW.PrintLast Go.Proofs.YtnomeokicfpidaaW.PrintMore
attribute [local go_sem] max2_int min2_int max_two min_two max_three min_three max_four min_four
set_option linter.unusedVariables false
set_option linter.unusedSimpArgs false
def shape_Initial.l0 : Nat → List Int → Int → Int → List Int → List Int → Option (Int)
 | 0, _, _, _, _, _ => none
 | k + 1, x9, x10, x11, x102000, x102001 => if x11 < x10 then (if 0 ≤ x11 then (if x11 < (x9.length : Int) then (if 0 ≤ (rd x9 x11) then (if (rd x9 x11) < (x102000.length : Int) then ((shape_solid.f (rd x102000 (rd x9 x11))).bind fun t107 => (if t107 = true then (some (rd x9 x11)) else (shape_Initial.l0 k x9 x10 (wrap64 (x11 + 1)) x102000 x102001))) else (none)) else (none)) else (none)) else (none)) else (some (-1))
def shape_Initial.f (k : Nat) (l0_0 : List Int) (l0_1 : List Int) (a1 : Int) : Option (Int) := (shape_Kids.f k l0_0 l0_1 a1).bind fun t102 => (shape_Initial.l0 k t102 (t102.length : Int) 0 l0_0 l0_1)
set_option maxHeartbeats 8000000 in
set_option maxRecDepth 100000 in
theorem shape_Initial.calls (k : Nat) (A0_0 : Option Addr) (c0_0 : Nat) (l0_0 : List Int) (A0_1 : Option Addr) (c0_1 : Nat) (l0_1 : List Int) (a1 : Int) (r : Int) (w : World) (hr0_0 : Kd.C (Kd.int .i64) w A0_0 l0_0.length l0_0) (hc0_0 : l0_0.length ≤ c0_0) (hr0_1 : Kd.C (Kd.int .i64) w A0_1 l0_1.length l0_1) (hc0_1 : l0_1.length ≤ c0_1) (h : shape_Initial.f k l0_0 l0_1 a1 = some r) :
  Calls Try.prog 30 #[.agg #[.slice A0_0 l0_0.length c0_0, .slice A0_1 l0_1.length c0_1], .int .i64 a1] w fun e w' => e = .returned (.int .i64 r) ∧ Below w.heap.size w w' := by
 have hu24 := Try.underlying24
 have HR0_0 := Aside0.mk hr0_0
 have HC0_0 := Aside0.mk hc0_0
 clear hr0_0 hc0_0
 have HR0_1 := Aside0.mk hr0_1
 have HC0_1 := Aside0.mk hc0_1
 clear hr0_1 hc0_1
 have HB := Aside0.mk (Below.refl w.heap.size w)
 have H : ((shape_Kids.f k l0_0 l0_1 a1).bind fun t102 => (shape_Initial.l0 k t102 (t102.length : Int) 0 l0_0 l0_1)) = some r := h
 clear h
 replace H := Option.bind_eq_some_iff.mp H
 obtain ⟨t102, A30, H⟩ := H
 replace H : (shape_Initial.l0 k t102 (t102.length : Int) 0 l0_0 l0_1) = some r := H
 have A3 := Aside0.mk A30
 clear A30
 have H' := Aside0.mk H
 clear H
 go_enter Try.func30, Try.ntmps30
 go_wp2_with (first | ((with_reducible refine gate_dst (N := 2) rfl ?_); refine box_event ?hg (N := 2) ?hd (cs := #[.slice A0_0 l0_0.length c0_0, .slice A0_1 l0_1.length c0_1]) (t := 24) ?hr ?_; (case hd => rfl); (case hg => rfl); (case hr => first | (go_simp; done) | (go_simp; rfl)); intro gb101 hg w4 hbox hb; have n0_ := Aside0.mk (below_step (by repeat (first | (with_reducible first | exact HB.out | apply below_alloc | apply pw_below_drewN | apply below_drew1) | exact HB.out)) hb); have n1_ := Aside0.mk (hbox); have n2_ := Aside0.mk ((by rw [hg]; exact (below_size (by repeat (first | (with_reducible first | exact HB.out | apply below_alloc | apply pw_below_drewN | apply below_drew1) | exact HB.out))) : w.heap.size ≤ gb101)); have n3_ := Aside0.mk ((by rw [hg]; exact (below_size (by repeat (first | (with_reducible first | exact HB.out | apply below_alloc | apply pw_below_drewN | apply below_drew1) | exact HB.out))) : w.heap.size ≤ gb101)); clear HB; have HB := n0_; have BK101 := n1_; have GW101 := n2_; have GE101 := n3_; clear n0_ n1_ n2_ n3_; clear hb hbox hg; have hcz5_0 : w4.cell? ⟨gb101, 0, none⟩ = some (.slice A0_0 l0_0.length c0_0) := (blk_cell BK101.out 0).trans rfl; have hcz5_1 : w4.cell? ⟨gb101, 1, none⟩ = some (.slice A0_1 l0_1.length c0_1) := (blk_cell BK101.out 1).trans rfl; have hfz5_0 := blk_frozen BK101.out 0; have hfz5_1 := blk_frozen BK101.out 1) | ((with_reducible refine gate_callee (f := 25) rfl ?_); refine goesL_ (some 9) rfl rfl Try.func25 (by kernel_rfl) rfl #[.agg #[.slice A0_0 l0_0.length c0_0, .slice A0_1 l0_1.length c0_1], .int .i64 a1] rfl (by (try simp only [List.map_toArray, List.map_cons, List.map_nil]); first | done | rfl | (simp only [List.length_drop, List.length_take]; rfl)) ?_; (with_reducible refine (shape_Kids.calls k _ _ l0_0 _ _ l0_1 a1 t102 _ ?side1 ?side2 ?side3 ?side4 A3.out).mono ?_); (case side1 => repeat (first | exact (Kd.C_below HR0_0.out HB.out) | (with_reducible refine Kd.C_alloc ?_ _) | (with_reducible refine Kd.C_drewN ?_ _) | (with_reducible refine Kd.C_drew ?_))); (case side2 => exact HC0_0.out); (case side3 => repeat (first | exact (Kd.C_below HR0_1.out HB.out) | (with_reducible refine Kd.C_alloc ?_ _) | (with_reducible refine Kd.C_drewN ?_ _) | (with_reducible refine Kd.C_drew ?_))); (case side4 => exact HC0_1.out); rintro e w6 ⟨v103, rfl, ho0, hb⟩; refine ⟨_, rfl, ?_⟩; have n0_ := Aside0.mk (Kd.R_lower ho0 (below_size (by repeat (first | (with_reducible first | exact HB.out | apply below_alloc | apply pw_below_drewN | apply below_drew1 | refine below_set ?_ GE101.out) | exact HB.out)))); have n1_ := Aside0.mk (blk_below (g := gb101) (o := .cells #[.slice A0_0 l0_0.length c0_0, .slice A0_1 l0_1.length c0_1] 24 (0, 0)) (by (with_reducible repeat (first | refine blk_drewN ?_ _ | refine blk_drew ?_ | refine blk_alloc ?_ _)); exact BK101.out) hb); have n2_ := Aside0.mk (below_step (by repeat (first | (with_reducible first | exact HB.out | apply below_alloc | apply pw_below_drewN | apply below_drew1 | refine below_set ?_ GE101.out) | exact HB.out)) hb); clear BK101; clear HB; have HO104 := n0_; have BK101 := n1_; have HB := n2_; clear n0_ n1_ n2_; (try clear hb); (try clear hb2); (try clear hk); (try clear hi); (try clear ho0); obtain ⟨Ao7, co7, eo7⟩ := Kd.R_slice HO104.out; subst eo7))
 go_loopg [11] k (fun kq v11 w' => ∃ (x11_1 : Int), v11 = .int .i64 x11_1 ∧ Aside0 (shape_Initial.l0 kq t102 (t102.length : Int) x11_1 l0_0 l0_1 = some r) ∧ Aside0 (kq ≤ k) ∧ Aside0 (Kd.R (Kd.int .i64) 3 w' w.heap.size (fun _ => True) (.slice Ao7 t102.length co7) t102) ∧ Aside0 (w'.heap[gb101]? = some (.cells #[(.slice A0_0 l0_0.length c0_0), (.slice A0_1 l0_1.length c0_1)] 24 (0, 0))) ∧ Aside0 (Below w.heap.size w w'))
 case atStart => exact ⟨(0), (by first | rfl | (simp; done) | (simp [*]; done)), H', ⟨Nat.le_refl _⟩, ⟨by (with_reducible repeat (first | apply Kd.R_alloc | apply Kd.R_drewN | apply Kd.R_drew)); exact HO104.out⟩, ⟨by (with_reducible repeat (first | refine blk_drewN ?_ _ | refine blk_drew ?_ | refine blk_alloc ?_ _)); exact BK101.out⟩, ⟨by repeat (first | (with_reducible first | exact HB.out | apply below_alloc | apply pw_below_drewN | apply below_drew1 | refine below_set ?_ GE101.out) | exact HB.out)⟩⟩
 case round =>
  clear H'
  try clear c2
  try clear p2
  try clear c3
  try clear hcz5_0
  try clear hcz5_1
  try clear hfz5_0
  try clear hfz5_1
  obtain ⟨x11_1, rfl, HA, HK1, HO_9, BK101, HB⟩ := hrel
  cases gk with
  | zero => exact absurd HA.out (by simp [shape_Initial.l0])
  | succ k1 =>
   have H := HA.out
   clear HA
   simp only [shape_Initial.l0] at H
   by_cases c8 : x11_1 < (t102.length : Int)
   ·rw [if_pos c8] at H
    have c8b0 : decide (x11_1 < (t102.length : Int)) = true := decide_eq_true c8
    clear c8
    by_cases c9 : 0 ≤ x11_1
    ·rw [if_pos c9] at H
     have c9b0 : decide (0 ≤ x11_1) = true := decide_eq_true c9
     clear c9
     by_cases c10 : x11_1 < (t102.length : Int)
     ·rw [if_pos c10] at H
      have c10b0 : decide (x11_1 < (t102.length : Int)) = true := decide_eq_true c10
      clear c10
      by_cases c11 : 0 ≤ (rd t102 x11_1)
      ·rw [if_pos c11] at H
       have c11b0 : decide (0 ≤ (rd t102 x11_1)) = true := decide_eq_true c11
       clear c11
       by_cases c12 : (rd t102 x11_1) < (l0_0.length : Int)
       ·rw [if_pos c12] at H
        have c12b0 : decide ((rd t102 x11_1) < (l0_0.length : Int)) = true := decide_eq_true c12
        clear c12
        replace H := Option.bind_eq_some_iff.mp H
        obtain ⟨t107, A130, H⟩ := H
        replace H : (if t107 = true then (some (rd t102 x11_1)) else (shape_Initial.l0 k1 t102 (t102.length : Int) (wrap64 (x11_1 + 1)) l0_0 l0_1)) = some r := H
        have A13 := Aside0.mk A130
        clear A130
        by_cases c14 : t107 = true
        ·subst c14
         have H1 : (some (rd t102 x11_1)) = some r := by rw [if_pos rfl] at H; exact H
         clear H
         have H := H1
         clear H1
         obtain rfl := Option.some.inj H
         have p105 : 0 ≤ (x11_1 : Int) := of_decide_eq_true (by first | (with_reducible assumption) | assumption)
         have q105 : x11_1 < (t102.length : Int) := of_decide_eq_true (by first | (with_reducible assumption) | assumption)
         obtain ⟨ad105, e105, hx105_0⟩ := Kd.at_int (Kd.R_reads' HO_9.out).2.2 x11_1 p105 q105
         cases e105
         replace p105 := eq_true p105
         replace q105 := eq_true q105
         have hcz15_0 : wr.cell? ⟨gb101, 0, none⟩ = some (.slice A0_0 l0_0.length c0_0) := (blk_cell BK101.out 0).trans rfl
         have hcz15_1 : wr.cell? ⟨gb101, 1, none⟩ = some (.slice A0_1 l0_1.length c0_1) := (blk_cell BK101.out 1).trans rfl
         have hfz15_0 := blk_frozen BK101.out 0
         have hfz15_1 := blk_frozen BK101.out 1
         have p106 : 0 ≤ ((rd t102 x11_1) : Int) := of_decide_eq_true (by first | (with_reducible assumption) | assumption)
         have q106 : (rd t102 x11_1) < (l0_0.length : Int) := of_decide_eq_true (by first | (with_reducible assumption) | assumption)
         obtain ⟨ad106, e106, hx106_0⟩ := Kd.at_int HR0_0.out (rd t102 x11_1) p106 q106
         cases e106
         replace hx106_0 := (HB.out.cell (World.block_lt_of_cell? w _ hx106_0)).trans hx106_0
         replace p106 := eq_true p106
         replace q106 := eq_true q106
         go_wp2_with (first | ((with_reducible refine gate_callee (f := 45) rfl ?_); refine goesL_ (some 20) rfl rfl Try.func45 (by kernel_rfl) rfl #[.int .i64 (rd l0_0 (rd t102 x11_1))] rfl (by (try simp only [List.map_toArray, List.map_cons, List.map_nil]); first | done | rfl | (simp only [List.length_drop, List.length_take]; rfl)) ?_; (with_reducible refine (shape_solid.calls (rd l0_0 (rd t102 x11_1)) true _ A13.out).mono ?_); rintro e w' ⟨rfl, ⟨nd, rfl⟩⟩; refine ⟨_, rfl, ?_⟩))
         go_ret
         exact ⟨by first | rfl | (simp [errW_none, errW_some] <;> rfl) | (simp [*, errW_none, errW_some] <;> rfl), by repeat (first | (with_reducible first | exact HB.out | apply below_alloc | apply pw_below_drewN | apply below_drew1 | refine below_set ?_ GE101.out) | exact HB.out)⟩
        ·replace c14 := Bool.eq_false_iff.mpr c14
         subst c14
         have H1 : (shape_Initial.l0 k1 t102 (t102.length : Int) (wrap64 (x11_1 + 1)) l0_0 l0_1) = some r := by rw [if_neg (show ¬ (false = true) by decide)] at H; exact H
         clear H
         have H := H1
         clear H1
         have H' := Aside0.mk H
         clear H
         have p105 : 0 ≤ (x11_1 : Int) := of_decide_eq_true (by first | (with_reducible assumption) | assumption)
         have q105 : x11_1 < (t102.length : Int) := of_decide_eq_true (by first | (with_reducible assumption) | assumption)
         obtain ⟨ad105, e105, hx105_0⟩ := Kd.at_int (Kd.R_reads' HO_9.out).2.2 x11_1 p105 q105
         cases e105
         replace p105 := eq_true p105
         replace q105 := eq_true q105
         have hcz16_0 : wr.cell? ⟨gb101, 0, none⟩ = some (.slice A0_0 l0_0.length c0_0) := (blk_cell BK101.out 0).trans rfl
         have hcz16_1 : wr.cell? ⟨gb101, 1, none⟩ = some (.slice A0_1 l0_1.length c0_1) := (blk_cell BK101.out 1).trans rfl
         have hfz16_0 := blk_frozen BK101.out 0
         have hfz16_1 := blk_frozen BK101.out 1
         have p106 : 0 ≤ ((rd t102 x11_1) : Int) := of_decide_eq_true (by first | (with_reducible assumption) | assumption)
         have q106 : (rd t102 x11_1) < (l0_0.length : Int) := of_decide_eq_true (by first | (with_reducible assumption) | assumption)
         obtain ⟨ad106, e106, hx106_0⟩ := Kd.at_int HR0_0.out (rd t102 x11_1) p106 q106
         cases e106
         replace hx106_0 := (HB.out.cell (World.block_lt_of_cell? w _ hx106_0)).trans hx106_0
         replace p106 := eq_true p106
         replace q106 := eq_true q106
         go_wp2_with (first | ((with_reducible refine gate_callee (f := 45) rfl ?_); refine goesL_ (some 20) rfl rfl Try.func45 (by kernel_rfl) rfl #[.int .i64 (rd l0_0 (rd t102 x11_1))] rfl (by (try simp only [List.map_toArray, List.map_cons, List.map_nil]); first | done | rfl | (simp only [List.length_drop, List.length_take]; rfl)) ?_; (with_reducible refine (shape_solid.calls (rd l0_0 (rd t102 x11_1)) false _ A13.out).mono ?_); rintro e w' ⟨rfl, ⟨nd, rfl⟩⟩; refine ⟨_, rfl, ?_⟩))
         go_roundg k1
         case measure => have := HK1.out; omega
         case rel => exact ⟨(wrap64 (x11_1 + 1)), (by first | rfl | (simp; done) | (simp [*]; done)), H', ⟨by have := HK1.out; omega⟩, ⟨by (with_reducible repeat (first | apply Kd.R_alloc | apply Kd.R_drewN | apply Kd.R_drew)); exact HO_9.out⟩, ⟨by (with_reducible repeat (first | refine blk_drewN ?_ _ | refine blk_drew ?_ | refine blk_alloc ?_ _)); exact BK101.out⟩, ⟨by repeat (first | (with_reducible first | exact HB.out | apply below_alloc | apply pw_below_drewN | apply below_drew1 | refine below_set ?_ GE101.out) | exact HB.out)⟩⟩
       ·rw [if_neg c12] at H
        exact absurd H (by simp)
      ·rw [if_neg c11] at H
       exact absurd H (by simp)
     ·rw [if_neg c10] at H
      exact absurd H (by simp)
    ·rw [if_neg c9] at H
     exact absurd H (by simp)
   ·rw [if_neg c8] at H
    have c8b0 : decide (x11_1 < (t102.length : Int)) = false := decide_eq_false c8
    clear c8
    obtain rfl := Option.some.inj H
    go_wp2
    go_ret
    exact ⟨by first | rfl | (simp [errW_none, errW_some] <;> rfl) | (simp [*, errW_none, errW_some] <;> rfl), by repeat (first | (with_reducible first | exact HB.out | apply below_alloc | apply pw_below_drewN | apply below_drew1 | refine below_set ?_ GE101.out) | exact HB.out)⟩
end Go.Proofs.Ytnomeokicfpidaa.Q
namespace Go.Proofs.Ytnomeokicfpidaa.Q
open Go.RowKit Go.Proofs.YtnomeokicfpidaaW.PrintWords Go.Proofs.YtnomeokicfpidaaW.PrintLast Go.Proofs.YtnomeokicfpidaaW.PrintMore
attribute [local go_sem] max2_int min2_int max_two min_two max_three min_three max_four min_four
set_option linter.unusedVariables false
set_option linter.unusedSimpArgs false
mutual
def shape_Valid.j0 : Nat → Int → Bool → List Int → List Int → Option (Bool)
 | 0, _, _, _, _ => none
 | k + 1, x3, x23, x102000, x102001 => if x23 = true then (some false) else (shape_Valid.l0 k x3 x102000 (x102000.length : Int) 0 x102000 x102001)
def shape_Valid.l0 : Nat → Int → List Int → Int → Int → List Int → List Int → Option (Bool)
 | 0, _, _, _, _, _, _ => none
 | k + 1, x3, x25, x26, x27, x102000, x102001 => if x27 < x26 then (if 0 ≤ x27 then (if x27 < (x25.length : Int) then (if x27 < (x102001.length : Int) then (if (rd x25 x27) < 1 then (shape_Valid.j2 k x3 (rd x25 x27) (rd x102001 x27) x25 x26 x27 true x102000 x102001) else (if (rd x25 x27) > 4 then (shape_Valid.j2 k x3 (rd x25 x27) (rd x102001 x27) x25 x26 x27 true x102000 x102001) else (if (rd x102001 x27) < (-1) then (shape_Valid.j2 k x3 (rd x25 x27) (rd x102001 x27) x25 x26 x27 true x102000 x102001) else (shape_Valid.j2 k x3 (rd x25 x27) (rd x102001 x27) x25 x26 x27 (decide ((rd x102001 x27) ≥ x27)) x102000 x102001)))) else (none)) else (none)) else (none)) else (shape_Valid.l1 k x3 (-1) x102000 x102001)
def shape_Valid.j2 : Nat → Int → Int → Int → List Int → Int → Int → Bool → List Int → List Int → Option (Bool)
 | 0, _, _, _, _, _, _, _, _, _ => none
 | k + 1, x3, x5, x6, x25, x26, x27, x51, x102000, x102001 => if x51 = true then (some false) else (if x6 = (-1) then ((shape_solid.f x5).bind fun t104 => (if t104 = true then (shape_Valid.l0 k x3 x25 x26 (wrap64 (x27 + 1)) x102000 x102001) else (some false))) else (if 0 ≤ x6 then (if x6 < (x102000.length : Int) then ((shape_solid.f (rd x102000 x6)).bind fun t106 => (if t106 = true then ((shape_solid.f x5).bind fun t107 => (if t107 = true then (shape_Valid.l0 k x3 x25 x26 (wrap64 (x27 + 1)) x102000 x102001) else (if (rd x102000 x6) = 1 then (shape_Valid.l0 k x3 x25 x26 (wrap64 (x27 + 1)) x102000 x102001) else (some false)))) else (some false))) else (none)) else (none)))
def shape_Valid.l1 : Nat → Int → Int → List Int → List Int → Option (Bool)
 | 0, _, _, _, _ => none
 | k + 1, x3, x7, x102000, x102001 => if x7 < x3 then (if x7 = (-1) then ((shape_Initial.f k x102000 x102001 x7).bind fun t109 => (if t109 < 0 then (some false) else (shape_Valid.l1 k x3 (wrap64 (x7 + 1)) x102000 x102001))) else ((shape_Kids.f k x102000 x102001 x7).bind fun t110 => (if (t110.length : Int) > 0 then ((shape_Initial.f k x102000 x102001 x7).bind fun t113 => (if t113 < 0 then (some false) else (shape_Valid.l1 k x3 (wrap64 (x7 + 1)) x102000 x102001))) else (shape_Valid.l1 k x3 (wrap64 (x7 + 1)) x102000 x102001)))) else (some true)
end
def shape_Valid.f (k : Nat) (l0_0 : List Int) (l0_1 : List Int) : Option (Bool) := if (l0_0.length : Int) < 1 then (shape_Valid.j0 k (l0_0.length : Int) true l0_0 l0_1) else (if (l0_0.length : Int) > 24 then (shape_Valid.j0 k (l0_0.length : Int) true l0_0 l0_1) else (shape_Valid.j0 k (l0_0.length : Int) ((l0_1.length : Int) != (l0_0.length : Int)) l0_0 l0_1))
end Go.Proofs.Ytnomeokicfpidaa.Q
namespace Go.Proofs.Ytnomeokicfpidaa.Q
open Go.RowKit Go.Proofs.YtnomeokicfpidaaW.PrintWords Go.Proofs.YtnomeokicfpidaaW.PrintLast Go.Proofs.YtnomeokicfpidaaW.PrintMore
attribute [local go_sem] max2_int min2_int max_two min_two max_three min_three max_four min_four
set_option linter.unusedVariables false
set_option linter.unusedSimpArgs false
def imprimaturref06_Shape_Initial.l0 : Nat → List Int → Int → Int → List Int → List Int → Option (Int)
 | 0, _, _, _, _, _ => none
 | k + 1, x9, x10, x11, x102000, x102001 => if x11 < x10 then (if 0 ≤ x11 then (if x11 < (x9.length : Int) then (if 0 ≤ (rd x9 x11) then (if (rd x9 x11) < (x102000.length : Int) then (if (rd x102000 (rd x9 x11)) ≤ 2 then (some (rd x9 x11)) else (imprimaturref06_Shape_Initial.l0 k x9 x10 (wrap64 (x11 + 1)) x102000 x102001)) else (none)) else (none)) else (none)) else (none)) else (some (-1))
def imprimaturref06_Shape_Initial.f (k : Nat) (l0_0 : List Int) (l0_1 : List Int) (a1 : Int) : Option (Int) := (imprimaturref06_Shape_Kids.f k l0_0 l0_1 a1).bind fun t102 => (imprimaturref06_Shape_Initial.l0 k t102 (t102.length : Int) 0 l0_0 l0_1)
end Go.Proofs.Ytnomeokicfpidaa.Q
namespace Go.Proofs.Ytnomeokicfpidaa.M
open Go.RowKit Go.Proofs.YtnomeokicfpidaaW.PrintWords Go.Proofs.YtnomeokicfpidaaW.PrintLast Go.Proofs.YtnomeokicfpidaaW.PrintMore Go.Proofs.Ytnomeokicfpidaa.Q
set_option linter.unusedVariables false
def solidB (k : Int) : Bool := k == 1 || k == 2
def kidsFrom (P : List Int) (at_ : Int) (i d : Nat) : List Int := ((List.range' i d).filter (fun j => decide (P.getD j 0 = at_))).map (fun j : Nat => (j : Int))
def kids (P : List Int) (at_ : Int) : List Int := kidsFrom P at_ 0 P.length
theorem kidsFrom_succ (P : List Int) (a : Int) (i d : Nat) : kidsFrom P a i (d + 1) = if P.getD i 0 = a then (i : Int) :: kidsFrom P a (i + 1) d else kidsFrom P a (i + 1) d := by
 unfold kidsFrom
 rw [List.range'_succ, List.filter_cons]
 by_cases h : P.getD i 0 = a
 ·rw [if_pos h, if_pos (decide_eq_true h)]; rfl
 ·rw [if_neg h, if_neg (by rw [decide_eq_false h]; simp)]
theorem solidB_iff {k : Int} : solidB k = true ↔ k = 1 ∨ k = 2 := by unfold solidB; simp
theorem kids_len (P : List Int) (a : Int) : (kids P a).length ≤ P.length := by
 unfold kids kidsFrom
 rw [List.length_map]
 exact Nat.le_trans (List.length_filter_le _ _) (by simp)
theorem mem_kids {P : List Int} {a x : Int} : x ∈ kids P a ↔ ∃ j : Nat, x = j ∧ j < P.length ∧ P.getD j 0 = a := by
 unfold kids kidsFrom
 constructor
 ·intro h
  obtain ⟨j, hj, rfl⟩ := List.mem_map.1 h
  obtain ⟨h1, h2⟩ := List.mem_filter.1 hj
  rw [List.mem_range'_1] at h1
  exact ⟨j, rfl, by omega, by simpa using h2⟩
 ·rintro ⟨j, rfl, h1, h2⟩
  exact List.mem_map.2 ⟨j, List.mem_filter.2 ⟨List.mem_range'_1.2 ⟨by omega, by omega⟩, by simpa using h2⟩, rfl⟩
theorem solid_f (a : Int) : shape_solid.f a = some (solidB a) := by
 unfold shape_solid.f solidB
 by_cases h : a = 1
 ·simp [h]
 ·rw [if_neg h]; simp [h]
theorem Kids_l0 (a : Int) (P : List Int) (hP : P.length < 1099511627776) : ∀ (d i : Nat) (acc : List Int), i + d = P.length → acc.length ≤ i →
  Ev (fun k => shape_Kids.l0 k a acc P (P.length : Int) (i : Int)) (acc ++ kidsFrom P a i d) := by
 intro d
 induction d with
 | zero =>
  intro i acc hi ha
  refine Ev.ret (fun k => ?_)
  simp only [shape_Kids.l0]
  rw [if_neg (by omega)]
  simp [kidsFrom]
 | succ d ih =>
  intro i acc hi ha
  rw [kidsFrom_succ]
  by_cases hp : P.getD i 0 = a
  ·rw [if_pos hp]
   refine Ev.st (Ev.val (ih (i + 1) (acc ++ [(i : Int)]) (by omega) (by simp; omega)) (by simp)) (fun k => ?_)
   simp only [shape_Kids.l0]
   rw [if_pos (by omega), if_pos (by omega), if_pos (by omega), rd_nat, if_pos hp, if_pos (by omega), w1 i (by omega)]
  ·rw [if_neg hp]
   refine Ev.st (ih (i + 1) acc (by omega) (by omega)) (fun k => ?_)
   simp only [shape_Kids.l0]
   rw [if_pos (by omega), if_pos (by omega), if_pos (by omega), rd_nat, if_neg hp, w1 i (by omega)]
theorem Kids_f (K P : List Int) (a : Int) (hP : P.length < 1099511627776) : Ev (fun k => shape_Kids.f k K P a) (kids P a) := by
 have h := Kids_l0 a P hP P.length 0 [] (by omega) (by simp)
 simpa [shape_Kids.f, kids] using h
theorem rKids_l0 (a : Int) (K P : List Int) (hP : P.length < 1099511627776) : ∀ (d i : Nat) (acc : List Int), i + d = P.length → acc.length ≤ i →
  Ev (fun k => imprimaturref06_Shape_Kids.l0 k a acc (P.length : Int) (i : Int) K P) (acc ++ kidsFrom P a i d) := by
 intro d
 induction d with
 | zero =>
  intro i acc hi ha
  refine Ev.ret (fun k => ?_)
  simp only [imprimaturref06_Shape_Kids.l0]
  rw [if_neg (by omega)]
  simp [kidsFrom]
 | succ d ih =>
  intro i acc hi ha
  rw [kidsFrom_succ]
  by_cases hp : P.getD i 0 = a
  ·rw [if_pos hp]
   refine Ev.st (Ev.val (ih (i + 1) (acc ++ [(i : Int)]) (by omega) (by simp; omega)) (by simp)) (fun k => ?_)
   simp only [imprimaturref06_Shape_Kids.l0]
   rw [if_pos (by omega), if_pos (by omega), if_pos (by omega), rd_nat, if_pos hp, if_pos (by omega), w1 i (by omega)]
  ·rw [if_neg hp]
   refine Ev.st (ih (i + 1) acc (by omega) (by omega)) (fun k => ?_)
   simp only [imprimaturref06_Shape_Kids.l0]
   rw [if_pos (by omega), if_pos (by omega), if_pos (by omega), rd_nat, if_neg hp, w1 i (by omega)]
theorem rKids_f (K P : List Int) (a : Int) (hP : P.length < 1099511627776) : Ev (fun k => imprimaturref06_Shape_Kids.f k K P a) (kids P a) := by
 have h := rKids_l0 a K P hP P.length 0 [] (by omega) (by simp)
 simpa [imprimaturref06_Shape_Kids.f, kids] using h
def firstSolid (K : List Int) : List Int → Int
 | [] => -1
 | x :: xs => if solidB (rd K x) = true then x else firstSolid K xs
def initial (K P : List Int) (a : Int) : Int := firstSolid K (kids P a)
theorem Initial_l0 (K P : List Int) (L : List Int) (hL : ∀ x ∈ L, 0 ≤ x ∧ x < (K.length : Int)) (hl : L.length < 1099511627776) : ∀ (d i : Nat), i + d = L.length →
  Ev (fun k => shape_Initial.l0 k L (L.length : Int) (i : Int) K P) (firstSolid K (L.drop i)) := by
 intro d
 induction d with
 | zero =>
  intro i hi
  refine Ev.ret (fun k => ?_)
  simp only [shape_Initial.l0]
  rw [if_neg (by omega), List.drop_of_length_le (by omega)]; rfl
 | succ d ih =>
  intro i hi
  have hd : L.drop i = L.getD i 0 :: L.drop (i + 1) := by
   rw [List.drop_eq_getElem_cons (by omega), List.getD_eq_getElem?_getD, List.getElem?_eq_getElem (by omega)]; rfl
  have hm : L.getD i 0 ∈ L := by rw [List.getD_eq_getElem?_getD, List.getElem?_eq_getElem (by omega)]; exact List.getElem_mem _
  have hb := hL _ hm
  rw [hd, firstSolid]
  by_cases hs : solidB (rd K (L.getD i 0)) = true
  ·refine Ev.ret (fun k => ?_)
   simp only [shape_Initial.l0]
   rw [if_pos (by omega), if_pos (by omega), if_pos (by omega), rd_nat, if_pos hb.1, if_pos hb.2, solid_f, Option.bind_some, if_pos hs, if_pos hs]
  ·rw [if_neg hs]
   refine Ev.st (ih (i + 1) (by omega)) (fun k => ?_)
   simp only [shape_Initial.l0]
   rw [if_pos (by omega), if_pos (by omega), if_pos (by omega), rd_nat, if_pos hb.1, if_pos hb.2, solid_f, Option.bind_some, if_neg hs, w1 i (by omega)]
theorem kids_in {K P : List Int} (hn : P.length = K.length) (a : Int) : ∀ x ∈ kids P a, 0 ≤ x ∧ x < (K.length : Int) := by
 intro x hx
 obtain ⟨j, rfl, h1, _⟩ := mem_kids.1 hx
 omega
theorem Initial_f (K P : List Int) (a : Int) (hn : P.length = K.length) (hP : P.length < 1099511627776) : Ev (fun k => shape_Initial.f k K P a) (initial K P a) := by
 unfold shape_Initial.f
 refine Ev.bd (Kids_f K P a hP) ?_
 have h := Initial_l0 K P (kids P a) (kids_in hn a) (Nat.lt_of_le_of_lt (kids_len P a) hP) (kids P a).length 0 (by omega)
 simpa [initial] using h
def okS (K P : List Int) (i : Nat) : Bool :=
 decide (1 ≤ K.getD i 0) && (decide (K.getD i 0 ≤ 4) && (decide (-1 ≤ P.getD i 0) && (decide (P.getD i 0 < i) &&
  (if P.getD i 0 = -1 then solidB (K.getD i 0) else solidB (rd K (P.getD i 0)) && (solidB (K.getD i 0) || rd K (P.getD i 0) == 1)))))
def compB (K P : List Int) (a : Int) : Bool := (a != -1 && (kids P a).isEmpty) || decide (0 ≤ initial K P a)
def compsB (K P : List Int) : Bool := compB K P (-1) && (List.range' 0 K.length).all (fun j => compB K P (j : Int))
def validB (K P : List Int) : Bool := decide (1 ≤ K.length ∧ K.length ≤ 24 ∧ P.length = K.length) && ((List.range' 0 K.length).all (okS K P) && compsB K P)
theorem okS_iff {K P : List Int} {i : Nat} : okS K P i = true ↔ 1 ≤ K.getD i 0 ∧ K.getD i 0 ≤ 4 ∧ -1 ≤ P.getD i 0 ∧ P.getD i 0 < i ∧
  (if P.getD i 0 = -1 then solidB (K.getD i 0) else solidB (rd K (P.getD i 0)) && (solidB (K.getD i 0) || rd K (P.getD i 0) == 1)) = true := by
 unfold okS
 simp only [Bool.and_eq_true, decide_eq_true_eq]
end Go.Proofs.Ytnomeokicfpidaa.M
namespace Go.Proofs.Ytnomeokicfpidaa.M
open Go.RowKit Go.Proofs.YtnomeokicfpidaaW.PrintWords Go.Proofs.YtnomeokicfpidaaW.PrintLast Go.Proofs.YtnomeokicfpidaaW.PrintMore
set_option linter.unusedVariables false
def Ok (K P : List Int) : Prop := P.length = K.length ∧ 1 ≤ K.length ∧ (∀ i, i < K.length → okS K P i = true) ∧ (∀ a, kids P a ≠ [] → 0 ≤ initial K P a) ∧ K.length ≤ 24
theorem Ok.of_valid {K P : List Int} (h : validB K P = true) : Ok K P := by
 unfold validB compsB at h
 rw [Bool.and_eq_true, decide_eq_true_eq, Bool.and_eq_true, Bool.and_eq_true, List.all_eq_true, List.all_eq_true] at h
 obtain ⟨⟨h1, h2, h3⟩, h4, h5, h6⟩ := h
 have ok : ∀ i, i < K.length → okS K P i = true := fun i hi => h4 i (List.mem_range'_1.2 ⟨by omega, by omega⟩)
 refine ⟨h3, h1, ok, fun a ha => ?_, h2⟩
 obtain ⟨x, hx⟩ := List.exists_mem_of_ne_nil _ ha
 obtain ⟨j, rfl, j1, j2⟩ := mem_kids.1 hx
 obtain ⟨_, _, b1, b2, _⟩ := okS_iff.1 (ok j (by omega))
 rw [j2] at b1 b2
 by_cases e : a = -1
 ·subst e
  unfold compB at h5
  simpa using h5
 ·have := h6 a.toNat (List.mem_range'_1.2 ⟨by omega, by omega⟩)
  rw [show ((a.toNat : Nat) : Int) = a by omega] at this
  unfold compB at this
  rw [show (a != -1) = true from bne_iff_ne.mpr e, Bool.true_and, Bool.or_eq_true, decide_eq_true_eq] at this
  rcases this with h | h
  ·exact absurd (List.isEmpty_iff.1 h) ha
  ·exact h
theorem firstSolid_cases (K : List Int) : ∀ L : List Int, firstSolid K L = -1 ∨ (firstSolid K L ∈ L ∧ solidB (rd K (firstSolid K L)) = true)
 | [] => .inl rfl
 | x :: L => by
  rw [firstSolid]
  by_cases h : solidB (rd K x) = true
  ·rw [if_pos h]; exact .inr ⟨List.mem_cons_self .., h⟩
  ·rw [if_neg h]
   rcases firstSolid_cases K L with h | ⟨h, h'⟩
   ·exact .inl h
   ·exact .inr ⟨List.mem_cons_of_mem _ h, h'⟩
theorem initial_cases (K P : List Int) (a : Int) : initial K P a = -1 ∨ (initial K P a ∈ kids P a ∧ solidB (rd K (initial K P a)) = true) := firstSolid_cases K (kids P a)
section
variable {K P : List Int} (h : Ok K P)
include h
theorem Ok.kid {a x : Int} (hx : x ∈ kids P a) : 0 ≤ x ∧ x < K.length ∧ a < x ∧ -1 ≤ a ∧ (a = -1 → solidB (rd K x) = true) ∧ (a ≠ -1 → solidB (rd K a) = true ∧ (solidB (rd K x) = true ∨ rd K a = 1)) := by
 obtain ⟨j, rfl, j1, j2⟩ := mem_kids.1 hx
 have hn := h.1
 obtain ⟨_, _, b1, b2, b3⟩ := okS_iff.1 (h.2.2.1 j (by omega))
 rw [j2] at b1 b2 b3
 rw [rd_nat]
 refine ⟨by omega, by omega, b2, b1, fun e => ?_, fun e => ?_⟩
 ·rw [if_pos e] at b3; exact b3
 ·rw [if_neg e, Bool.and_eq_true, Bool.or_eq_true, beq_iff_eq] at b3; exact b3
end
end Go.Proofs.Ytnomeokicfpidaa.M
namespace Go.Proofs.Ytnomeokicfpidaa.M
open Go.RowKit Go.Proofs.YtnomeokicfpidaaW.PrintWords Go.Proofs.YtnomeokicfpidaaW.PrintLast Go.Proofs.YtnomeokicfpidaaW.PrintMore
set_option linter.unusedVariables false
def inS (K P : List Int) : Nat → Int → List Int
 | 0, _ => []
 | f + 1, a => if rd K a = 2 then a :: (kids P a).flatMap (inS K P f) else a :: (if 0 ≤ initial K P a then inS K P f (initial K P a) else [])
end Go.Proofs.Ytnomeokicfpidaa.M
namespace Go.Proofs.Ytnomeokicfpidaa.EW
open Go.RowKit Go.Proofs.YtnomeokicfpidaaW.PrintWords Go.Proofs.YtnomeokicfpidaaW.PrintLast Go.Proofs.YtnomeokicfpidaaW.PrintMore Go.Proofs.Ytnomeokicfpidaa.Q Go.Proofs.Ytnomeokicfpidaa.M
attribute [local go_sem] max2_int min2_int max_two min_two max_three min_three max_four min_four
set_option linter.unusedVariables false
set_option linter.unusedSimpArgs false
theorem infoI : (Try.prog.info? 3).map (fun i => (i.zero, i.size, i.bytes)) = some (some (.int .i64 0), 1, 8) := by kernel_rfl
structure WW (w0 w : World) (g : Nat) (sK sP sQ v : Value) (out : List Int) : Prop where
 below : Below w0.heap.size w0 w
 ge : w0.heap.size ≤ g
 blk : w.heap[g]? = some (.cells #[sK, sP, sQ, v] 70 (0, 0))
 own : Kd.R (Kd.int .i64) 3 w w0.heap.size (fun _ => True) v out
structure Fr (w w' : World) (g : Nat) (v v' : Value) : Prop where
 size : w.heap.size ≤ w'.heap.size
 block : ∀ k, k < w.heap.size → k ≠ g → some k ≠ v.ownBlock → w'.heap[k]? = w.heap[k]?
 row : v'.ownBlock = v.ownBlock ∨ ∃ b, v'.ownBlock = some b ∧ w.heap.size ≤ b
theorem Fr.refl (w : World) (g : Nat) (v : Value) : Fr w w g v v := ⟨Nat.le_refl _, fun _ _ _ _ => rfl, .inl rfl⟩
theorem Fr.trans {w w1 w2 : World} {g : Nat} {v v1 v2 : Value} (h : Fr w w1 g v v1) (k : Fr w1 w2 g v1 v2) : Fr w w2 g v v2 := by
 refine ⟨Nat.le_trans h.size k.size, fun j hj hg hv => ?_, ?_⟩
 ·refine (k.block j (Nat.lt_of_lt_of_le hj h.size) hg (fun e => ?_)).trans (h.block j hj hg hv)
  rcases h.row with r | ⟨b, r, hb⟩
  ·exact hv (by rw [e, r])
  ·rw [r] at e; injection e with e; omega
 ·rcases k.row with r | ⟨b, r, hb⟩
  ·rcases h.row with r' | ⟨b, r', hb⟩
   ·exact .inl (r.trans r')
   ·exact .inr ⟨b, r.trans r', hb⟩
  ·exact .inr ⟨b, r, Nat.le_trans h.size hb⟩
theorem Fr.of_below {w w1 : World} (h : Below w.heap.size w w1) (g : Nat) (v : Value) : Fr w w1 g v v := ⟨h.size, fun k hk _ _ => h.block k hk, .inl rfl⟩
def Put (w0 w : World) (g : Nat) (sK sP sQ v : Value) (r : List Int) (e : Ending) (w' : World) : Prop := e = .returned (.tuple #[]) ∧ ∃ v', WW w0 w' g sK sP sQ v' r ∧ Fr w w' g v v'
theorem WW.lt {w0 w : World} {g : Nat} {sK sP sQ v : Value} {out : List Int} (h : WW w0 w g sK sP sQ v out) : g < w.heap.size := blk_lt h.blk
theorem WW.push {w0 w w1 : World} {g : Nat} {sK sP sQ v v1 : Value} {out r : List Int} (h : WW w0 w g sK sP sQ v out) (ho : Kd.R (Kd.int .i64) 3 w1 w0.heap.size (fun _ => True) v1 r)
  (hb : Below w0.heap.size w0 w1) (hg : w.grownBy w1 v.ownBlock) (hat : v1.ownBlock = v.ownBlock ∨ ∃ b, v1.ownBlock = some b ∧ w.heap.size ≤ b) :
  w1.heap[g]? = some (.cells #[sK, sP, sQ, v] 70 (0, 0)) ∧ WW w0 (w1.setCell ⟨g, 3, none⟩ v1) g sK sP sQ v1 r ∧ Fr w (w1.setCell ⟨g, 3, none⟩ v1) g v v1 := by
 have hne : some g ≠ v.ownBlock := Kd.R_ne h.own h.blk (by decide)
 have hb1 := blk_grown h.blk hg hne
 have hne1 : some g ≠ v1.ownBlock := Kd.R_ne ho hb1 (by decide)
 refine ⟨hb1, ⟨below_set hb h.ge, h.ge, by simpa using blk_set hb1 3 v1, Kd.R_far (Kd.R_mono (ok' := fun k => k ≠ g) (Kd.R_types ho hb1 (by decide)) (fun k hk => hk.2)) (fun k hk => hk) v1 |> fun z => Kd.R_mono z (fun _ _ => trivial)⟩, ⟨?_, fun k hk hkg hkv => ?_, hat⟩⟩
 ·simpa using hg.size
 ·rw [Below.heap_setCell w1 ⟨g, 3, none⟩ v1 k hkg]
  exact hg.block k hk hkv
theorem WW.step {w0 w w1 : World} {g : Nat} {sK sP sQ v : Value} {out : List Int} (h : WW w0 w g sK sP sQ v out) (hb : Below w.heap.size w w1) : WW w0 w1 g sK sP sQ v out :=
 ⟨below_then h.below h.below.size hb, h.ge, (hb.block g h.lt).trans h.blk, Kd.R_below h.own hb⟩
theorem row_after {w w' : World} {g B : Nat} {v v' u : Value} {L : List Int} (h : Kd.R (Kd.int .i64) 3 w B (fun _ => True) u L) (hB : g < B) (hv : ∀ k, v.ownBlock = some k → k < B) (hF : Fr w w' g v v') :
  Kd.R (Kd.int .i64) 3 w' B (fun _ => True) u L :=
 Kd.R_mono (Kd.R_step (Kd.R_bound h) (fun k hk hlt => hF.block k hlt (by have := hk.2.1; omega) (fun e => by have := hv k e.symm; have := hk.2.1; omega))) (fun _ _ => trivial)
theorem flat_take {F : Int → List Int} {L : List Int} {i : Nat} (hi : i < L.length) : (L.take (i + 1)).flatMap F = (L.take i).flatMap F ++ F (rd L (i : Int)) := by
 rw [List.take_succ_eq_append_getElem hi, List.flatMap_append, List.flatMap_singleton, rd_nat, List.getD_eq_getElem?_getD, List.getElem?_eq_getElem hi]; rfl
theorem flat_le {F : Int → List Int} {L : List Int} (i : Nat) : ((L.take i).flatMap F).length ≤ (L.flatMap F).length := by
 have : (L.flatMap F).length = ((L.take i).flatMap F).length + ((L.drop i).flatMap F).length := by rw [← List.length_append, ← List.flatMap_append, List.take_append_drop]
 omega
end Go.Proofs.Ytnomeokicfpidaa.EW
namespace Go.Proofs.Ytnomeokicfpidaa.EW
open Go.RowKit Go.Proofs.YtnomeokicfpidaaW.PrintWords Go.Proofs.YtnomeokicfpidaaW.PrintLast Go.Proofs.YtnomeokicfpidaaW.PrintMore Go.Proofs.Ytnomeokicfpidaa.Q Go.Proofs.Ytnomeokicfpidaa.M
attribute [local go_sem] max2_int min2_int max_two min_two max_three min_three max_four min_four
set_option linter.unusedVariables false
set_option linter.unusedSimpArgs false
set_option maxHeartbeats 8000000 in
set_option maxRecDepth 100000 in
theorem in_leaf {w0 : World} {AK AP AQ : Option Addr} {cK cP cQ : Nat} {lK lP lQ : List Int} {g : Nat}
  (hK : Kd.C (Kd.int .i64) w0 AK lK.length lK) (hcK : lK.length ≤ cK) (hP : Kd.C (Kd.int .i64) w0 AP lP.length lP) (hcP : lP.length ≤ cP) (hn : lP.length = lK.length) (h24 : lK.length ≤ 24)
  (a : Int) (h0 : 0 ≤ a) (h1 : a < lK.length) (hs : rd lK a = 1) (w : World) (v : Value) (out : List Int)
  (hW : WW w0 w g (.slice AK lK.length cK) (.slice AP lP.length cP) (.slice AQ lQ.length cQ) v out) (hl : (out ++ [a]).length < 17592186044416) (hi : initial lK lP a = -1) :
  Calls Try.prog 52 #[.pointer (some ⟨g, 0, none⟩), .int .i64 a] w (Put w0 w g (.slice AK lK.length cK) (.slice AP lP.length cP) (.slice AQ lQ.length cQ) v (out ++ [a])) := by
 obtain ⟨k, hk⟩ := (Initial_f lK lP a hn (by omega)).rounds
 have hu24 := Try.underlying24
 have hu70 := Try.underlying70
 have hc0 : w.cell? ⟨g, 0, none⟩ = some (.slice AK lK.length cK) := (blk_cell hW.blk 0).trans rfl
 have hc1 : w.cell? ⟨g, 1, none⟩ = some (.slice AP lP.length cP) := (blk_cell hW.blk 1).trans rfl
 have hc3 : w.cell? ⟨g, 3, none⟩ = some v := (blk_cell hW.blk 3).trans rfl
 obtain ⟨ad, e, hx⟩ := Kd.at_int (Kd.C_below hK hW.below) a h0 (by omega)
 subst e
 have p0 := eq_true h0
 have p1 := eq_true h1
 have t1 : (rd lK a == 3) = false := by rw [hs]; rfl
 have t2 : (rd lK a == 4) = false := by rw [hs]; rfl
 have t3 : (rd lK a == 2) = false := by rw [hs]; rfl
 clear h0 h1 hs
 have HW := Aside0.mk hW
 clear hW
 have HK := Aside0.mk hk
 clear hk
 have HN := Aside0.mk hn
 clear hn
 obtain ⟨y, hy⟩ : ∃ y : List Int, y = out ++ [a] := ⟨_, rfl⟩
 have HI := Aside0.mk hi
 clear hi
 rw [List.length_append, List.length_singleton] at hl
 have HL := Aside0.mk hl
 clear hl
 rw [← hy]
 have HY := Aside0.mk hy
 clear hy
 go_enter Try.func52, Try.ntmps52
 go_wp2_with (first | ((with_reducible refine gate_builtin (b := .append) (xs := #[.tmp 68, .tmp 70]) rfl ?_); at_builtin; refine Kd.R_append (Kd.int .i64) (w0 := w0) w0.heap.size rfl (.tmp 68) (.tmp 70) 22 3 (.int .i64 0) 8 rfl Try.underlying22 infoI rfl (by decide) (by omega) v out a [.int .i64 a] (fun _ => True) (fun _ => False) rfl rfl ?aP (fun _ hk => hk.elim) ?aF ?aO ?aB ?aS ?aL ?_; (case aP => exact rfl); (case aB => exact HW.out.below); (case aF => exact (fun _ _ => trivial)); (case aO => exact HW.out.own); (case aS => exact HW.out.below.size); (case aL => have := HL.out; omega); intro v1 w1 ho hb hg hat; rw [← HY.out] at ho; obtain ⟨Av, cv, ev⟩ := Kd.R_slice ho; subst ev; obtain ⟨hb1, hW2, hF⟩ := HW.out.push ho hb hg hat; clear ho hb hg hat; have hc3' : w1.cell? ⟨g, 3, none⟩ = some v := (blk_cell hb1 3).trans rfl; have hf3' := blk_frozen hb1 3; clear hb1; have hd0 : (w1.setCell ⟨g, 3, none⟩ (.slice Av y.length cv)).cell? ⟨g, 0, none⟩ = some (.slice (some ad) lK.length cK) := (blk_cell hW2.blk 0).trans rfl; have hd1 : (w1.setCell ⟨g, 3, none⟩ (.slice Av y.length cv)).cell? ⟨g, 1, none⟩ = some (.slice AP lP.length cP) := (blk_cell hW2.blk 1).trans rfl; have HW2 := Aside0.mk hW2; clear hW2; have HF := Aside0.mk hF; clear hF) | (go_at_call 30; (with_reducible refine (shape_Initial.calls k _ _ lK _ _ lP a _ _ ?s1 ?s2 ?s3 ?s4 HK.out).mono ?_); (case s1 => exact Kd.C_below hK HW2.out.below); (case s2 => exact hcK); (case s3 => exact Kd.C_below hP HW2.out.below); (case s4 => exact hcP); rintro e w3 ⟨rfl, hb3⟩; rw [HI.out]; have HB3 := Aside0.mk hb3; clear hb3))
 go_end0
 exact ⟨rfl, _, HW2.out.step HB3.out, HF.out.trans (Fr.of_below HB3.out g _)⟩
set_option maxHeartbeats 8000000 in
set_option maxRecDepth 100000 in
theorem in_plain {w0 : World} {AK AP AQ : Option Addr} {cK cP cQ : Nat} {lK lP lQ : List Int} {g : Nat}
  (hK : Kd.C (Kd.int .i64) w0 AK lK.length lK) (hcK : lK.length ≤ cK) (hP : Kd.C (Kd.int .i64) w0 AP lP.length lP) (hcP : lP.length ≤ cP) (hn : lP.length = lK.length) (h24 : lK.length ≤ 24)
  (a : Int) (h0 : 0 ≤ a) (h1 : a < lK.length) (hs : rd lK a = 1) (w : World) (v : Value) (out : List Int)
  (hW : WW w0 w g (.slice AK lK.length cK) (.slice AP lP.length cP) (.slice AQ lQ.length cQ) v out) (x : Int) (hx0 : 0 ≤ x) (r : List Int) (hl : (out ++ [a]).length < 17592186044416) (hi : initial lK lP a = x)
  (IH : ∀ (w : World) (v : Value), WW w0 w g (.slice AK lK.length cK) (.slice AP lP.length cP) (.slice AQ lQ.length cQ) v (out ++ [a]) → Calls Try.prog 52 #[.pointer (some ⟨g, 0, none⟩), .int .i64 x] w (Put w0 w g (.slice AK lK.length cK) (.slice AP lP.length cP) (.slice AQ lQ.length cQ) v r)) :
  Calls Try.prog 52 #[.pointer (some ⟨g, 0, none⟩), .int .i64 a] w (Put w0 w g (.slice AK lK.length cK) (.slice AP lP.length cP) (.slice AQ lQ.length cQ) v (r)) := by
 obtain ⟨k, hk⟩ := (Initial_f lK lP a hn (by omega)).rounds
 have hu24 := Try.underlying24
 have hu70 := Try.underlying70
 have hc0 : w.cell? ⟨g, 0, none⟩ = some (.slice AK lK.length cK) := (blk_cell hW.blk 0).trans rfl
 have hc1 : w.cell? ⟨g, 1, none⟩ = some (.slice AP lP.length cP) := (blk_cell hW.blk 1).trans rfl
 have hc3 : w.cell? ⟨g, 3, none⟩ = some v := (blk_cell hW.blk 3).trans rfl
 obtain ⟨ad, e, hx⟩ := Kd.at_int (Kd.C_below hK hW.below) a h0 (by omega)
 subst e
 have p0 := eq_true h0
 have p1 := eq_true h1
 have t1 : (rd lK a == 3) = false := by rw [hs]; rfl
 have t2 : (rd lK a == 4) = false := by rw [hs]; rfl
 have t3 : (rd lK a == 2) = false := by rw [hs]; rfl
 clear h0 h1 hs
 have HW := Aside0.mk hW
 clear hW
 have HK := Aside0.mk hk
 clear hk
 have HN := Aside0.mk hn
 clear hn
 obtain ⟨y, hy⟩ : ∃ y : List Int, y = out ++ [a] := ⟨_, rfl⟩
 have HI := Aside0.mk hi
 clear hi
 rw [List.length_append, List.length_singleton] at hl
 have HL := Aside0.mk hl
 clear hl
 rw [← hy] at IH
 have HY := Aside0.mk hy
 clear hy
 have tx : decide (0 ≤ x) = true := decide_eq_true hx0
 clear hx0
 have HH := Aside0.mk IH
 clear IH
 go_enter Try.func52, Try.ntmps52
 go_wp2_with (first | ((with_reducible refine gate_builtin (b := .append) (xs := #[.tmp 68, .tmp 70]) rfl ?_); at_builtin; refine Kd.R_append (Kd.int .i64) (w0 := w0) w0.heap.size rfl (.tmp 68) (.tmp 70) 22 3 (.int .i64 0) 8 rfl Try.underlying22 infoI rfl (by decide) (by omega) v out a [.int .i64 a] (fun _ => True) (fun _ => False) rfl rfl ?aP (fun _ hk => hk.elim) ?aF ?aO ?aB ?aS ?aL ?_; (case aP => exact rfl); (case aB => exact HW.out.below); (case aF => exact (fun _ _ => trivial)); (case aO => exact HW.out.own); (case aS => exact HW.out.below.size); (case aL => have := HL.out; omega); intro v1 w1 ho hb hg hat; rw [← HY.out] at ho; obtain ⟨Av, cv, ev⟩ := Kd.R_slice ho; subst ev; obtain ⟨hb1, hW2, hF⟩ := HW.out.push ho hb hg hat; clear ho hb hg hat; have hc3' : w1.cell? ⟨g, 3, none⟩ = some v := (blk_cell hb1 3).trans rfl; have hf3' := blk_frozen hb1 3; clear hb1; have hd0 : (w1.setCell ⟨g, 3, none⟩ (.slice Av y.length cv)).cell? ⟨g, 0, none⟩ = some (.slice (some ad) lK.length cK) := (blk_cell hW2.blk 0).trans rfl; have hd1 : (w1.setCell ⟨g, 3, none⟩ (.slice Av y.length cv)).cell? ⟨g, 1, none⟩ = some (.slice AP lP.length cP) := (blk_cell hW2.blk 1).trans rfl; have HW2 := Aside0.mk hW2; clear hW2; have HF := Aside0.mk hF; clear hF) | (go_at_call 30; (with_reducible refine (shape_Initial.calls k _ _ lK _ _ lP a _ _ ?s1 ?s2 ?s3 ?s4 HK.out).mono ?_); (case s1 => exact Kd.C_below hK HW2.out.below); (case s2 => exact hcK); (case s3 => exact Kd.C_below hP HW2.out.below); (case s4 => exact hcP); rintro e w3 ⟨rfl, hb3⟩; rw [HI.out]; have HB3 := Aside0.mk hb3; clear hb3) | (go_at_call 52; (with_reducible refine (HH.out w3 _ (HW2.out.step HB3.out)).mono ?_); rintro e w4 ⟨rfl, v', hW4, hF4⟩))
 go_end0
 exact ⟨rfl, v', hW4, (HF.out.trans (Fr.of_below HB3.out g _)).trans hF4⟩
set_option maxHeartbeats 8000000 in
set_option maxRecDepth 100000 in
theorem in_all {w0 : World} {AK AP AQ : Option Addr} {cK cP cQ : Nat} {lK lP lQ : List Int} {g : Nat}
  (hK : Kd.C (Kd.int .i64) w0 AK lK.length lK) (hcK : lK.length ≤ cK) (hP : Kd.C (Kd.int .i64) w0 AP lP.length lP) (hcP : lP.length ≤ cP) (hn : lP.length = lK.length) (h24 : lK.length ≤ 24)
  (a : Int) (h0 : 0 ≤ a) (h1 : a < lK.length) (hs : rd lK a = 2) (w : World) (v : Value) (out : List Int)
  (hW : WW w0 w g (.slice AK lK.length cK) (.slice AP lP.length cP) (.slice AQ lQ.length cQ) v out) (F : Int → List Int) (hl : (out ++ [a] ++ (kids lP a).flatMap F).length < 17592186044416)
  (IH : ∀ x ∈ kids lP a, ∀ (w : World) (v : Value) (out : List Int), WW w0 w g (.slice AK lK.length cK) (.slice AP lP.length cP) (.slice AQ lQ.length cQ) v out → (out ++ F x).length < 17592186044416 → Calls Try.prog 52 #[.pointer (some ⟨g, 0, none⟩), .int .i64 x] w (Put w0 w g (.slice AK lK.length cK) (.slice AP lP.length cP) (.slice AQ lQ.length cQ) v (out ++ F x))) :
  Calls Try.prog 52 #[.pointer (some ⟨g, 0, none⟩), .int .i64 a] w (Put w0 w g (.slice AK lK.length cK) (.slice AP lP.length cP) (.slice AQ lQ.length cQ) v (out ++ [a] ++ (kids lP a).flatMap F)) := by
 obtain ⟨k, hk⟩ := (Kids_f lK lP a (by omega)).rounds
 have hu24 := Try.underlying24
 have hu70 := Try.underlying70
 have hc0 : w.cell? ⟨g, 0, none⟩ = some (.slice AK lK.length cK) := (blk_cell hW.blk 0).trans rfl
 have hc1 : w.cell? ⟨g, 1, none⟩ = some (.slice AP lP.length cP) := (blk_cell hW.blk 1).trans rfl
 have hc3 : w.cell? ⟨g, 3, none⟩ = some v := (blk_cell hW.blk 3).trans rfl
 obtain ⟨ad, e, hx⟩ := Kd.at_int (Kd.C_below hK hW.below) a h0 (by omega)
 subst e
 have p0 := eq_true h0
 have p1 := eq_true h1
 have t1 : (rd lK a == 3) = false := by rw [hs]; rfl
 have t2 : (rd lK a == 4) = false := by rw [hs]; rfl
 have t3 : (rd lK a == 2) = true := by rw [hs]; rfl
 clear h0 h1 hs
 have HW := Aside0.mk hW
 clear hW
 have HK := Aside0.mk hk
 clear hk
 have HN := Aside0.mk hn
 clear hn
 obtain ⟨y, hy⟩ : ∃ y : List Int, y = out ++ [a] := ⟨_, rfl⟩
 have hlen : y.length = out.length + 1 := by rw [hy, List.length_append, List.length_singleton]
 rw [← hy] at hl ⊢
 have hly : y.length + ((kids lP a).flatMap F).length < 17592186044416 := by rw [← List.length_append]; exact hl
 have HL := Aside0.mk (show out.length + 1 < 17592186044416 by omega)
 have HLY := Aside0.mk hly
 clear hl hly hlen
 have HY := Aside0.mk hy
 clear hy
 have HH := Aside0.mk IH
 clear IH
 have hkl := kids_len lP a
 obtain ⟨L, hL⟩ : ∃ L, L = kids lP a := ⟨_, rfl⟩
 rw [← hL] at hkl
 have HLL := Aside0.mk hL
 have hl24 : L.length ≤ 24 := by have := HN.out; omega
 clear hL hkl
 go_enter Try.func52, Try.ntmps52
 go_wp2_with (first | ((with_reducible refine gate_builtin (b := .append) (xs := #[.tmp 43, .tmp 45]) rfl ?_); at_builtin; refine Kd.R_append (Kd.int .i64) (w0 := w0) w0.heap.size rfl (.tmp 43) (.tmp 45) 22 3 (.int .i64 0) 8 rfl Try.underlying22 infoI rfl (by decide) (by omega) v out a [.int .i64 a] (fun _ => True) (fun _ => False) rfl rfl ?aP (fun _ hk => hk.elim) ?aF ?aO ?aB ?aS ?aL ?_; (case aP => exact rfl); (case aB => exact HW.out.below); (case aF => exact (fun _ _ => trivial)); (case aO => exact HW.out.own); (case aS => exact HW.out.below.size); (case aL => have := HL.out; omega); intro v1 w1 ho hb hg hat; rw [← HY.out] at ho; obtain ⟨Av, cv, ev⟩ := Kd.R_slice ho; subst ev; obtain ⟨hb1, hW2, hF⟩ := HW.out.push ho hb hg hat; clear ho hb hg hat; have hc3' : w1.cell? ⟨g, 3, none⟩ = some v := (blk_cell hb1 3).trans rfl; have hf3' := blk_frozen hb1 3; clear hb1; have hd0 : (w1.setCell ⟨g, 3, none⟩ (.slice Av y.length cv)).cell? ⟨g, 0, none⟩ = some (.slice (some ad) lK.length cK) := (blk_cell hW2.blk 0).trans rfl; have hd1 : (w1.setCell ⟨g, 3, none⟩ (.slice Av y.length cv)).cell? ⟨g, 1, none⟩ = some (.slice AP lP.length cP) := (blk_cell hW2.blk 1).trans rfl; have HW2 := Aside0.mk hW2; clear hW2; have HF := Aside0.mk hF; clear hF) | (go_at_call 25; (with_reducible refine (shape_Kids.calls k _ _ lK _ _ lP a _ _ ?s1 ?s2 ?s3 ?s4 HK.out).mono ?_); (case s1 => exact Kd.C_below hK HW2.out.below); (case s2 => exact hcK); (case s3 => exact Kd.C_below hP HW2.out.below); (case s4 => exact hcP); rintro e w3 ⟨vk, rfl, hok, hb3⟩; rw [← HLL.out] at hok; obtain ⟨Ak, ck, ek⟩ := Kd.R_slice hok; subst ek; have HOK := Aside0.mk hok; clear hok; have HB3 := Aside0.mk hb3; clear hb3))
 go_loopg [5, 56] L.length (fun kq v5 v56 w' => ∃ (xi : Int) (v' : Value), v56 = .int .i64 xi ∧ Aside0 (0 ≤ xi ∧ xi + kq = L.length) ∧ Aside0 (WW w0 w' g (.slice (some ad) lK.length cK) (.slice AP lP.length cP) (.slice AQ lQ.length cQ) v' (y ++ (L.take xi.toNat).flatMap F)) ∧ Aside0 (Fr w3 w' g (.slice Av y.length cv) v'))
 case atStart => exact ⟨0, _, rfl, ⟨by omega, by omega⟩, ⟨by simpa using HW2.out.step HB3.out⟩, ⟨Fr.refl _ _ _⟩⟩
 case round =>
  obtain ⟨xi, v', rfl, HX, HW3, HF3⟩ := hrel
  cases gk with
  | zero =>
   have c1 : decide (xi < (L.length : Int)) = false := decide_eq_false (by have := HX.out; omega)
   have hdone : y ++ (L.take xi.toNat).flatMap F = y ++ L.flatMap F := by rw [List.take_of_length_le (by have := HX.out; omega)]
   have HD := Aside0.mk hdone
   clear hdone
   go_wp2
   refine bodyPost_ret (v := .tuple #[]) (by simp [results, Try.results52, go_sem]) rfl ?_
   rw [← HLL.out, ← HD.out]
   exact ⟨rfl, v', HW3.out, (HF.out.trans (Fr.of_below HB3.out g _)).trans HF3.out⟩
  | succ k1 =>
   have c0 := eq_true HX.out.1
   have hlt : xi < (L.length : Int) := by have := HX.out; omega
   have c1 := eq_true hlt
   have c2 : decide (xi < (L.length : Int)) = true := decide_eq_true hlt
   have hr := row_after HOK.out HW2.out.lt (Kd.R_lt HW2.out.own) HF3.out
   obtain ⟨adk, ek, hxk⟩ := Kd.at_int (Kd.R_reads' hr).2.2 xi HX.out.1 (by omega)
   subst ek
   clear hr hlt
   have hmem : rd L xi ∈ kids lP a := by
    rw [← HLL.out]
    have := HX.out
    unfold rd
    rw [List.getD_eq_getElem?_getD, List.getElem?_eq_getElem (by omega)]; exact List.getElem_mem _
   have hft : (L.take (xi + 1).toNat).flatMap F = (L.take xi.toNat).flatMap F ++ F (rd L xi) := by
    have := HX.out
    rw [show (xi + 1).toNat = xi.toNat + 1 by omega, flat_take (by omega), show ((xi.toNat : Nat) : Int) = xi by omega]
   have hbd : (y ++ (L.take xi.toNat).flatMap F ++ F (rd L xi)).length < 17592186044416 := by
    rw [List.append_assoc, ← hft, List.length_append]
    have := flat_le (F := F) (L := L) (xi + 1).toNat
    have := HLY.out
    rw [← HLL.out] at this
    omega
   have HM := Aside0.mk hmem
   have HFT := Aside0.mk hft
   have HBD := Aside0.mk hbd
   clear hmem hft hbd
   have hw : wrap64 (xi + 1) = xi + 1 := by have := HX.out; exact w64 (by omega) (by omega)
   have HWR := Aside0.mk hw
   clear hw
   go_wp2_with (go_at_call 52; (with_reducible refine (HH.out _ HM.out _ _ _ HW3.out HBD.out).mono ?_); rintro e w4 ⟨rfl, v4, hW4, hF4⟩; have HW4 := Aside0.mk hW4; have HF4 := Aside0.mk hF4; clear hW4 hF4)
   go_roundg k1
   case measure => have := HX.out; omega
   case rel => exact ⟨wrap64 (xi + 1), v4, (by first | rfl | (simp; done) | (simp [*]; done)), ⟨by rw [HWR.out]; have := HX.out; omega⟩, ⟨by rw [HWR.out, HFT.out, ← List.append_assoc]; exact HW4.out⟩, ⟨HF3.out.trans HF4.out⟩⟩
theorem in_solid {w0 : World} {AK AP AQ : Option Addr} {cK cP cQ : Nat} {lK lP lQ : List Int} {g : Nat}
  (hK : Kd.C (Kd.int .i64) w0 AK lK.length lK) (hcK : lK.length ≤ cK) (hP : Kd.C (Kd.int .i64) w0 AP lP.length lP) (hcP : lP.length ≤ cP) (hO : Ok lK lP) :
  ∀ (f : Nat) (a : Int), 0 ≤ a → a < lK.length → (lK.length : Int) - a ≤ f → solidB (rd lK a) = true → ∀ (w : World) (v : Value) (out : List Int),
  WW w0 w g (.slice AK lK.length cK) (.slice AP lP.length cP) (.slice AQ lQ.length cQ) v out → (out ++ inS lK lP f a).length < 17592186044416 →
  Calls Try.prog 52 #[.pointer (some ⟨g, 0, none⟩), .int .i64 a] w (Put w0 w g (.slice AK lK.length cK) (.slice AP lP.length cP) (.slice AQ lQ.length cQ) v (out ++ inS lK lP f a)) := by
 have hn := hO.1
 have h24 := hO.2.2.2.2
 intro f
 induction f with
 | zero => intro a h0 h1 h2; omega
 | succ f ih =>
  intro a h0 h1 h2 hs w v out hW hl
  rw [inS] at hl ⊢
  rcases solidB_iff.1 hs with hk | hk
  ·rw [if_neg (by omega)] at hl ⊢
   rcases initial_cases lK lP a with hi | ⟨hi, hsi⟩
   ·rw [hi, if_neg (by omega)] at hl ⊢
    exact in_leaf hK hcK hP hcP hn h24 a h0 h1 hk w v out hW hl hi
   ·obtain ⟨x0, x1, x2, _⟩ := hO.kid hi
    rw [if_pos x0] at hl ⊢
    have e : out ++ a :: inS lK lP f (initial lK lP a) = (out ++ [a]) ++ inS lK lP f (initial lK lP a) := by simp
    rw [e] at hl ⊢
    exact in_plain hK hcK hP hcP hn h24 a h0 h1 hk w v out hW (initial lK lP a) x0 _ (by rw [List.length_append] at hl; omega) rfl
     (fun w v hW => ih (initial lK lP a) x0 x1 (by omega) hsi w v _ hW hl)
  ·rw [if_pos hk] at hl ⊢
   have e : out ++ a :: (kids lP a).flatMap (inS lK lP f) = (out ++ [a]) ++ (kids lP a).flatMap (inS lK lP f) := by simp
   rw [e] at hl ⊢
   refine in_all hK hcK hP hcP hn h24 a h0 h1 hk w v out hW (inS lK lP f) hl (fun x hx w v out hW hl => ?_)
   obtain ⟨x0, x1, x2, _, _, x3⟩ := hO.kid hx
   have := (x3 (by omega)).2
   refine ih x x0 x1 (by omega) ?_ w v out hW hl
   rcases this with h | h
   ·exact h
   ·omega
end Go.Proofs.Ytnomeokicfpidaa.EW
namespace Go.Proofs.Ytnomeokicfpidaa.EW
open Go.RowKit Go.Proofs.YtnomeokicfpidaaW.PrintWords Go.Proofs.YtnomeokicfpidaaW.PrintLast Go.Proofs.YtnomeokicfpidaaW.PrintMore Go.Proofs.Ytnomeokicfpidaa.Q Go.Proofs.Ytnomeokicfpidaa.M
attribute [local go_sem] max2_int min2_int max_two min_two max_three min_three max_four min_four
set_option linter.unusedVariables false
set_option linter.unusedSimpArgs false
def wasS (Q : List Int) (a : Int) : Int := if a < 0 then 0 else if a ≥ (Q.length : Int) then 0 else rd Q a
end Go.Proofs.Ytnomeokicfpidaa.EW
namespace Go.Proofs.Ytnomeokicfpidaa.M
open Go.RowKit Go.Proofs.YtnomeokicfpidaaW.PrintWords Go.Proofs.YtnomeokicfpidaaW.PrintLast Go.Proofs.YtnomeokicfpidaaW.PrintMore
set_option linter.unusedVariables false
def Tree (P : List Int) : Prop := ∀ j : Nat, j < P.length → -1 ≤ P.getD j 0 ∧ P.getD j 0 < j
theorem Tree.rdP {P : List Int} (h : Tree P) {a : Int} (h0 : 0 ≤ a) (h1 : a < P.length) : -1 ≤ rd P a ∧ rd P a < a := by
 have := h a.toNat (by omega)
 unfold rd; omega
inductive Un (P : List Int) : Int → Int → Prop
 | refl (a : Int) : Un P a a
 | up {a b : Int} (h0 : 0 ≤ a) (h1 : a < P.length) (h : Un P (rd P a) b) : Un P a b
theorem Un.le {P : List Int} (hT : Tree P) {a b : Int} (h : Un P a b) : b ≤ a := by
 induction h with
 | refl => exact Int.le_refl _
 | up h0 h1 _ ih => have := hT.rdP h0 h1; omega
theorem Un.trans {P : List Int} {a b c : Int} (h : Un P a b) (k : Un P b c) : Un P a c := by
 induction h with
 | refl => exact k
 | up h0 h1 _ ih => exact .up h0 h1 (ih k)
theorem Un.cases' {P : List Int} {a b : Int} (h : Un P a b) (hne : a ≠ b) : 0 ≤ a ∧ a < P.length ∧ Un P (rd P a) b := by
 cases h with
 | refl => exact absurd rfl hne
 | up h0 h1 h => exact ⟨h0, h1, h⟩
theorem Un.lt {P : List Int} (hT : Tree P) {a b : Int} (h : Un P a b) (hne : a ≠ b) : b < a := by
 obtain ⟨h0, h1, h2⟩ := h.cases' hne
 have := h2.le hT
 have := hT.rdP h0 h1; omega
theorem Un.lin {P : List Int} {a b c : Int} (h : Un P a b) (k : Un P a c) : Un P b c ∨ Un P c b := by
 induction h with
 | refl => exact .inl k
 | @up a b h0 h1 h ih =>
  by_cases e : a = c
  ·subst e; exact .inr (.up h0 h1 h)
  ·exact ih (k.cases' e).2.2
theorem Un.kid {P : List Int} {a b : Int} (h : Un P a b) (hne : a ≠ b) : ∃ k : Nat, k < P.length ∧ P.getD k 0 = b ∧ Un P a (k : Int) := by
 induction h with
 | refl => exact absurd rfl hne
 | @up a b h0 h1 h ih =>
  by_cases e : rd P a = b
  ·exact ⟨a.toNat, by omega, e, by rw [show ((a.toNat : Nat) : Int) = a by omega]; exact .refl _⟩
  ·obtain ⟨k, x, y, z⟩ := ih e
   exact ⟨k, x, y, .up h0 h1 z⟩
theorem Un.sib {P : List Int} (hT : Tree P) {a p : Int} {k m : Nat} (hk : k < P.length) (hm : m < P.length) (ek : P.getD k 0 = p) (em : P.getD m 0 = p) (h : Un P a (k : Int)) (h' : Un P a (m : Int)) : k = m := by
 have key : ∀ {x y : Nat}, x < P.length → y < P.length → P.getD x 0 = p → P.getD y 0 = p → Un P (x : Int) (y : Int) → x = y := by
  intro x y hx hy ex ey h
  by_cases e : (x : Int) = (y : Int)
  ·omega
  ·obtain ⟨_, _, h2⟩ := h.cases' e
   rw [rd_nat, ex] at h2
   have := h2.le hT
   have := hT y hy
   omega
 rcases h.lin h' with h | h
 ·exact key hk hm ek em h
 ·exact (key hm hk em ek h).symm
theorem Un.top {P : List Int} (hT : Tree P) : ∀ (n : Nat) (a : Int), a < n → -1 ≤ a → a < P.length → Un P a (-1) := by
 intro n
 induction n with
 | zero =>
  intro a h1 h2 h3
  obtain rfl : a = -1 := by omega
  exact .refl _
 | succ n ih =>
  intro a h1 h2 h3
  by_cases e : a = -1
  ·subst e; exact .refl _
  ·have := hT.rdP (a := a) (by omega) h3
   exact .up (by omega) h3 (ih _ (by omega) this.1 (by omega))
theorem Un.par {P : List Int} {k : Nat} (hk : k < P.length) : Un P (k : Int) (P.getD k 0) := .up (by omega) (by omega) (by rw [rd_nat]; exact .refl _)
end Go.Proofs.Ytnomeokicfpidaa.M
namespace Go.Proofs.Ytnomeokicfpidaa.M
open Go.RowKit Go.Proofs.YtnomeokicfpidaaW.PrintWords Go.Proofs.YtnomeokicfpidaaW.PrintLast Go.Proofs.YtnomeokicfpidaaW.PrintMore Go.Proofs.Ytnomeokicfpidaa.Q
set_option linter.unusedVariables false
def unF (P : List Int) : Nat → Int → Int → Bool
 | 0, a, b => a == b
 | f + 1, a, b => if a = b then true else if 0 ≤ a ∧ a < P.length then unF P f (rd P a) b else false
def unB (P : List Int) (a b : Int) : Bool := unF P (P.length + 1) a b
theorem unF_iff {P : List Int} (hT : Tree P) : ∀ (f : Nat) (a b : Int), -1 ≤ a → a < f → a < P.length → (unF P f a b = true ↔ Un P a b) := by
 intro f
 induction f with
 | zero =>
  intro a b h0 h1 h2
  obtain rfl : a = -1 := by omega
  rw [unF, beq_iff_eq]
  constructor
  ·rintro rfl; exact .refl _
  ·intro h
   exact Classical.byContradiction fun e => by have := (h.cases' e).1; omega
 | succ f ih =>
  intro a b h0 h1 h2
  rw [unF]
  by_cases e : a = b
  ·rw [if_pos e]; subst e; exact ⟨fun _ => .refl _, fun _ => rfl⟩
  ·rw [if_neg e]
   by_cases g : 0 ≤ a ∧ a < P.length
   ·have := hT.rdP g.1 g.2
    rw [if_pos g, ih (rd P a) b (by omega) (by omega) (by omega)]
    exact ⟨fun h => .up g.1 g.2 h, fun h => (h.cases' e).2.2⟩
   ·rw [if_neg g]
    exact ⟨fun h => absurd h (by simp), fun h => absurd ⟨(h.cases' e).1, (h.cases' e).2.1⟩ g⟩
theorem unB_iff {P : List Int} (hT : Tree P) {a b : Int} (h0 : -1 ≤ a) (h1 : a < P.length) : unB P a b = true ↔ Un P a b := unF_iff hT _ a b h0 (by omega) h1
theorem unB_step {P : List Int} (hT : Tree P) {a b : Int} (h0 : 0 ≤ a) (h1 : a < P.length) (hne : a ≠ b) : unB P a b = unB P (rd P a) b := by
 have := hT.rdP h0 h1
 rw [Bool.eq_iff_iff, unB_iff hT (by omega) h1, unB_iff hT (by omega) (by omega)]
 exact ⟨fun h => (h.cases' hne).2.2, fun h => .up h0 h1 h⟩
theorem unB_stop {P : List Int} (hT : Tree P) {a b : Int} (h0 : -1 ≤ a) (h1 : a < P.length) (h : a ≤ b) : unB P a b = (a == b) := by
 rw [Bool.eq_iff_iff, unB_iff hT h0 h1, beq_iff_eq]
 constructor
 ·intro k; have := k.le hT; omega
 ·rintro rfl; exact .refl _
theorem Ok.tree {K P : List Int} (h : Ok K P) : Tree P := fun j hj => by
 obtain ⟨_, _, b1, b2, _⟩ := okS_iff.1 (h.2.2.1 j (by have := h.1; omega))
 exact ⟨b1, b2⟩
theorem Under_l0 {K P : List Int} (hT : Tree P) (b : Int) (hb : -1 ≤ b) : ∀ (d : Nat) (a : Int), -1 ≤ a → a < P.length → a < d → Ev (fun k => shape_Under.l0 k a b K P) (unB P a b) := by
 intro d
 induction d with
 | zero =>
  intro a h0 h1 h2
  refine Ev.ret (fun k => ?_)
  simp only [shape_Under.l0]
  rw [if_neg (by omega), unB_stop hT h0 h1 (by omega)]
 | succ d ih =>
  intro a h0 h1 h2
  by_cases g : a > b
  ·have := hT.rdP (a := a) (by omega) h1
   rw [unB_step hT (by omega) h1 (by omega)]
   refine Ev.st (ih (rd P a) (by omega) (by omega) (by omega)) (fun k => ?_)
   simp only [shape_Under.l0]
   rw [if_pos g, if_pos (by omega), if_pos h1]
  ·refine Ev.ret (fun k => ?_)
   simp only [shape_Under.l0]
   rw [if_neg g, unB_stop hT h0 h1 (by omega)]
theorem Under_f {K P : List Int} (hn : P.length = K.length) (hT : Tree P) {a b : Int} (h0 : 0 ≤ a) (h1 : a < K.length) (b0 : -1 ≤ b) (b1 : b < K.length) : Ev (fun k => shape_Under.f k K P a b) (unB P a b) := by
 have l0 := Under_l0 (K := K) hT b b0 (K.length) a (by omega) (by omega) (by omega)
 have hj : Ev (fun k => shape_Under.j0 k a b false K P) (unB P a b) := by
  refine Ev.st l0 (fun k => ?_)
  simp only [shape_Under.j0]; rw [if_neg (by simp)]
 refine Ev.cg hj (fun k => ?_)
 unfold shape_Under.f shape_Shape_is.f
 rw [if_pos h0, Option.bind_some, if_pos (by simpa using h1)]
 by_cases e : b = -1
 ·rw [if_pos e]
 ·rw [if_neg e, if_pos (by omega), Option.bind_some, decide_eq_true b1]; rfl
theorem rUnder_l0 {K P : List Int} (hT : Tree P) (b : Int) (hb : -1 ≤ b) : ∀ (d : Nat) (a : Int), -1 ≤ a → a < P.length → a < d → Ev (fun k => imprimaturref06_Shape_Under.l0 k a b K P) (unB P a b) := by
 intro d
 induction d with
 | zero =>
  intro a h0 h1 h2
  refine Ev.ret (fun k => ?_)
  simp only [imprimaturref06_Shape_Under.l0]
  rw [if_neg (by omega), unB_stop hT h0 h1 (by omega)]
 | succ d ih =>
  intro a h0 h1 h2
  by_cases g : a ≥ 0
  ·have := hT.rdP (a := a) (by omega) h1
   by_cases e : a = b
   ·refine Ev.ret (fun k => ?_)
    simp only [imprimaturref06_Shape_Under.l0]
    rw [if_pos g, if_pos e, unB_stop hT h0 h1 (by omega)]
   ·rw [unB_step hT (by omega) h1 e]
    refine Ev.st (ih (rd P a) (by omega) (by omega) (by omega)) (fun k => ?_)
    simp only [imprimaturref06_Shape_Under.l0]
    rw [if_pos g, if_neg e, if_pos (by omega), if_pos h1]
  ·refine Ev.ret (fun k => ?_)
   simp only [imprimaturref06_Shape_Under.l0]
   rw [if_neg g, unB_stop hT h0 h1 (by omega)]
theorem rUnder_f {K P : List Int} (hn : P.length = K.length) (hT : Tree P) {a b : Int} (h0 : 0 ≤ a) (h1 : a < K.length) (b0 : -1 ≤ b) (b1 : b < K.length) : Ev (fun k => imprimaturref06_Shape_Under.f k K P a b) (unB P a b) := by
 have l0 := rUnder_l0 (K := K) hT b b0 (K.length) a (by omega) (by omega) (by omega)
 have hj : Ev (fun k => imprimaturref06_Shape_Under.j0 k a b false K P) (unB P a b) := by
  refine Ev.st l0 (fun k => ?_)
  simp only [imprimaturref06_Shape_Under.j0]; rw [if_neg (by simp)]
 refine Ev.cg hj (fun k => ?_)
 unfold imprimaturref06_Shape_Under.f imprimaturref06_Shape_in.f
 rw [if_pos h0, Option.bind_some, if_pos (by simpa using h1), if_neg (by omega), decide_eq_false (by omega)]
def inB (s : Int) (i : Int) : Bool := (Go.bits .and .u32 (shr .u32 s i) 1) == 1
def belowFrom (P : List Int) (s a : Int) (i d : Nat) : List Int := ((List.range' i d).filter (fun j : Nat => decide (¬ (j : Int) = a) && (inB s (j : Int) && unB P (j : Int) a))).map (fun j : Nat => (j : Int))
def belowL (K P : List Int) (s a : Int) : List Int := belowFrom P s a 0 K.length
theorem belowFrom_succ (P : List Int) (s a : Int) (i d : Nat) : belowFrom P s a i (d + 1) = if (i : Int) ≠ a ∧ inB s i = true ∧ unB P i a = true then (i : Int) :: belowFrom P s a (i + 1) d else belowFrom P s a (i + 1) d := by
 unfold belowFrom
 rw [List.range'_succ, List.filter_cons]
 by_cases h : (i : Int) ≠ a ∧ inB s i = true ∧ unB P i a = true
 ·rw [if_pos h, if_pos (by simp [h.1, h.2.1, h.2.2])]; rfl
 ·rw [if_neg h, if_neg (by simpa using h)]
theorem below_l0 {K P : List Int} (hn : P.length = K.length) (hT : Tree P) (h24 : K.length < 1000000) (s a : Int) (a0 : -1 ≤ a) (a1 : a < K.length) : ∀ (d i : Nat) (acc : List Int), i + d = K.length → acc.length ≤ i →
  Ev (fun k => enter_below.l0 k s a acc (K.length : Int) (i : Int) K P) (acc ++ belowFrom P s a i d) := by
 intro d
 induction d with
 | zero =>
  intro i acc hi ha
  refine Ev.ret (fun k => ?_)
  simp only [enter_below.l0]
  rw [if_neg (by omega)]
  simp [belowFrom]
 | succ d ih =>
  intro i acc hi ha
  rw [belowFrom_succ]
  have hw := w1 i (by omega)
  by_cases e : (i : Int) = a
  ·rw [if_neg (by simp [e])]
   refine Ev.st (ih (i + 1) acc (by omega) (by omega)) (fun k => ?_)
   simp only [enter_below.l0]
   rw [if_pos (by omega), if_pos e, hw]
  ·have hin : enter_in.f s (i : Int) = some (inB s i) := by
    unfold enter_in.f inB; rw [if_pos (by omega), if_pos (by omega)]
   by_cases g : inB s i = true
   ·refine Ev.st (f := fun k => (shape_Under.f k K P (i : Int) a).bind fun t103 => (if t103 = true then (if acc.length < 17592186044416 then (enter_below.l0 k s a (acc ++ [(i : Int)]) (K.length : Int) (wrap64 ((i : Int) + 1)) K P) else (none)) else (enter_below.l0 k s a acc (K.length : Int) (wrap64 ((i : Int) + 1)) K P))) ?_ (fun k => ?_)
    ·refine Ev.bd (Under_f hn hT (by omega) (by omega) a0 a1) ?_
     simp only [hw]
     by_cases u : unB P i a = true
     ·rw [if_pos ⟨e, g, u⟩]
      refine Ev.pos u (Ev.pos (by omega) ?_)
      exact Ev.val (ih (i + 1) (acc ++ [(i : Int)]) (by omega) (by simp; omega)) (by simp)
     ·rw [if_neg (fun h => u h.2.2)]
      exact Ev.neg u (ih (i + 1) acc (by omega) (by omega))
    ·simp only [enter_below.l0]
     rw [if_pos (by omega), if_neg e, hin, Option.bind_some, if_pos g]
   ·rw [if_neg (fun h => g h.2.1)]
    refine Ev.st (ih (i + 1) acc (by omega) (by omega)) (fun k => ?_)
    simp only [enter_below.l0]
    rw [if_pos (by omega), if_neg e, hin, Option.bind_some, if_neg g, hw]
theorem below_f {K P : List Int} (hn : P.length = K.length) (hT : Tree P) (h24 : K.length < 1000000) (s a : Int) (a0 : -1 ≤ a) (a1 : a < K.length) : Ev (fun k => enter_below.f k K P s a) (belowL K P s a) := by
 have h := below_l0 hn hT h24 s a a0 a1 K.length 0 [] (by omega) (by simp)
 simpa [enter_below.f, belowL] using h
theorem mem_below {K P : List Int} {s a x : Int} : x ∈ belowL K P s a ↔ ∃ j : Nat, x = j ∧ j < K.length ∧ (j : Int) ≠ a ∧ inB s j = true ∧ unB P j a = true := by
 unfold belowL belowFrom
 simp only [List.mem_map, List.mem_filter, List.mem_range'_1, Bool.and_eq_true, decide_eq_true_eq]
 constructor
 ·rintro ⟨j, ⟨h1, h2, h3, h4⟩, rfl⟩; exact ⟨j, rfl, by omega, h2, h3, h4⟩
 ·rintro ⟨j, rfl, h1, h2, h3, h4⟩; exact ⟨j, ⟨by omega, h2, h3, h4⟩, rfl⟩
theorem below_len (K P : List Int) (s a : Int) : (belowL K P s a).length ≤ K.length := by
 unfold belowL belowFrom
 rw [List.length_map]
 exact Nat.le_trans (List.length_filter_le _ _) (by simp)
end Go.Proofs.Ytnomeokicfpidaa.M
namespace Go.Proofs.Ytnomeokicfpidaa.EW
open Go.RowKit Go.Proofs.YtnomeokicfpidaaW.PrintWords Go.Proofs.YtnomeokicfpidaaW.PrintLast Go.Proofs.YtnomeokicfpidaaW.PrintMore Go.Proofs.Ytnomeokicfpidaa.Q Go.Proofs.Ytnomeokicfpidaa.M
attribute [local go_sem] max2_int min2_int max_two min_two max_three min_three max_four min_four
set_option linter.unusedVariables false
set_option linter.unusedSimpArgs false
theorem rd_range {K P : List Int} (h : Ok K P) {a : Int} (h0 : 0 ≤ a) (h1 : a < K.length) : 1 ≤ rd K a ∧ rd K a ≤ 4 := by
 obtain ⟨a1, a2, _⟩ := okS_iff.1 (h.2.2.1 a.toNat (by omega))
 unfold rd; exact ⟨a1, a2⟩
end Go.Proofs.Ytnomeokicfpidaa.EW
namespace Go.Proofs.Ytnomeokicfpidaa.EW
open Go.RowKit Go.Proofs.YtnomeokicfpidaaW.PrintWords Go.Proofs.YtnomeokicfpidaaW.PrintLast Go.Proofs.YtnomeokicfpidaaW.PrintMore Go.Proofs.Ytnomeokicfpidaa.Q Go.Proofs.Ytnomeokicfpidaa.M
attribute [local go_sem] max2_int min2_int max_two min_two max_three min_three max_four min_four
set_option linter.unusedVariables false
set_option linter.unusedSimpArgs false
def startL (K P : List Int) : List Int := if 0 ≤ initial K P (-1) then inS K P K.length (initial K P (-1)) else []
set_option maxHeartbeats 16000000 in
set_option maxRecDepth 100000 in
theorem start_calls {w : World} {AK AP : Option Addr} {cK cP : Nat} {lK lP : List Int}
  (hK : Kd.C (Kd.int .i64) w AK lK.length lK) (hcK : lK.length ≤ cK) (hP : Kd.C (Kd.int .i64) w AP lP.length lP) (hcP : lP.length ≤ cP) (hO : Ok lK lP) (hl : (startL lK lP).length < 17592186044416) :
  Calls Try.prog 29 #[.agg #[.slice AK lK.length cK, .slice AP lP.length cP]] w fun e w' => ∃ v0_ : Value, e = .returned (v0_) ∧ Kd.R (Kd.int .i64) 3 w' w.heap.size (fun _ => True) v0_ (startL lK lP) ∧ Below w.heap.size w w' := by
 have hn := hO.1
 have h24 := hO.2.2.2.2
 have hu24 := Try.underlying24
 have hu70 := Try.underlying70
 obtain ⟨k, hk⟩ := (Initial_f lK lP (-1) hn (by omega)).rounds
 obtain ⟨W1, hW1⟩ : ∃ W1 : World, W1 = (w.alloc (.cells #[.slice AK lK.length cK, .slice AP lP.length cP] 24)).alloc (.cells #[.slice AK lK.length cK, .slice AP lP.length cP, .slice none 0 0, .slice none 0 0] 70) := ⟨_, rfl⟩
 have hww : WW w W1 (w.heap.size + 1) (.slice AK lK.length cK) (.slice AP lP.length cP) (.slice none ([] : List Int).length 0) (.slice none 0 0) [] := by
  rw [hW1]
  exact ⟨((Below.refl w.heap.size w).alloc (Nat.le_refl _) _).alloc (by simp) _, by omega, by simpa using heap_alloc_new (w.alloc _) _, Kd.R_nil _ _ _ _ _⟩
 have hS := in_solid (AQ := none) (cQ := 0) (lQ := []) (g := w.heap.size + 1) hK hcK hP hcP hO lK.length
 obtain ⟨x, hx⟩ : ∃ x, initial lK lP (-1) = x := ⟨_, rfl⟩
 have hsl : startL lK lP = if 0 ≤ x then inS lK lP lK.length x else [] := by unfold startL; rw [hx]
 have hcs := initial_cases lK lP (-1)
 rw [hx] at hcs hk
 rw [hsl] at hl ⊢
 have HWW := Aside0.mk hww
 have HW1 := Aside0.mk hW1
 have HK := Aside0.mk hk
 have HR := Aside0.mk (And.intro hK hP)
 clear hww hW1 hk hx hsl hn
 by_cases hx0 : 0 ≤ x
 ·rw [if_pos hx0] at hl ⊢
  have hsol : x ∈ kids lP (-1) ∧ solidB (rd lK x) = true := by
   rcases hcs with h | h
   ·omega
   ·exact h
  obtain ⟨x0, x1, _⟩ := hO.kid hsol.1
  have tx : decide (0 ≤ x) = true := decide_eq_true hx0
  have hin := fun w2 (hW : WW w w2 (w.heap.size + 1) (.slice AK lK.length cK) (.slice AP lP.length cP) (.slice none ([] : List Int).length 0) (.slice none 0 0) []) => hS x x0 x1 (by omega) hsol.2 w2 (.slice none 0 0) [] hW (by simpa using hl)
  have HH := Aside0.mk hin
  clear hin hS hsol hcs x0 x1 hl hx0 hO hK hP
  go_enter Try.func29, Try.ntmps29
  go_wp2_with (first | (go_at_call 30; rw [← HW1.out]; (with_reducible refine (shape_Initial.calls k _ _ lK _ _ lP (-1) _ _ ?s1 ?s2 ?s3 ?s4 HK.out).mono ?_); (case s1 => exact Kd.C_below HR.out.1 HWW.out.below); (case s2 => exact hcK); (case s3 => exact Kd.C_below HR.out.2 HWW.out.below); (case s4 => exact hcP); rintro e w3 ⟨rfl, hb3⟩; have HB3 := Aside0.mk hb3; clear hb3) | (go_at_call 52; (with_reducible refine (HH.out w3 (HWW.out.step HB3.out)).mono ?_); rintro e w4 ⟨rfl, v4, hW4, hF4⟩; obtain ⟨Av, cv, ev⟩ := Kd.R_slice hW4.own; subst ev; have hd3 := (show w4.cell? ⟨w.heap.size + 1, 3, none⟩ = some _ from (blk_cell hW4.blk 3).trans rfl); have HW4 := Aside0.mk hW4; clear hW4 hF4))
  go_ret
  exact ⟨_, rfl, by simpa using HW4.out.own, HW4.out.below⟩
 ·rw [if_neg hx0] at hl ⊢
  have tx : decide (0 ≤ x) = false := decide_eq_false hx0
  clear hS hcs hl hx0 hO hK hP
  go_enter Try.func29, Try.ntmps29
  go_wp2_with (first | (go_at_call 30; rw [← HW1.out]; (with_reducible refine (shape_Initial.calls k _ _ lK _ _ lP (-1) _ _ ?s1 ?s2 ?s3 ?s4 HK.out).mono ?_); (case s1 => exact Kd.C_below HR.out.1 HWW.out.below); (case s2 => exact hcK); (case s3 => exact Kd.C_below HR.out.2 HWW.out.below); (case s4 => exact hcP); rintro e w3 ⟨rfl, hb3⟩; have HW3 := Aside0.mk (HWW.out.step hb3); have hd3 := (show w3.cell? ⟨w.heap.size + 1, 3, none⟩ = some _ from (blk_cell HW3.out.blk 3).trans rfl); clear hb3))
  go_ret
  exact ⟨_, rfl, HW3.out.own, HW3.out.below⟩
end Go.Proofs.Ytnomeokicfpidaa.EW
namespace Go.Proofs.Ytnomeokicfpidaa.Q
open Go.RowKit Go.Proofs.YtnomeokicfpidaaW.PrintWords Go.Proofs.YtnomeokicfpidaaW.PrintLast Go.Proofs.YtnomeokicfpidaaW.PrintMore
attribute [local go_sem] max2_int min2_int max_two min_two max_three min_three max_four min_four
set_option linter.unusedVariables false
set_option linter.unusedSimpArgs false
def enter_Start.f (l0_0 l0_1 : List Int) : Option (List Int) := if M.validB l0_0 l0_1 = true ∧ (EW.startL l0_0 l0_1).length < 17592186044416 then some (EW.startL l0_0 l0_1) else none
theorem enter_Start.calls (A0_0 : Option Addr) (c0_0 : Nat) (l0_0 : List Int) (A0_1 : Option Addr) (c0_1 : Nat) (l0_1 : List Int) (r : List Int) (w : World) (hr0_0 : Kd.C (Kd.int .i64) w A0_0 l0_0.length l0_0) (hc0_0 : l0_0.length ≤ c0_0) (hr0_1 : Kd.C (Kd.int .i64) w A0_1 l0_1.length l0_1) (hc0_1 : l0_1.length ≤ c0_1) (h : enter_Start.f l0_0 l0_1 = some r) :
  Calls Try.prog 29 #[.agg #[.slice A0_0 l0_0.length c0_0, .slice A0_1 l0_1.length c0_1]] w fun e w' => ∃ v0_ : Value, e = .returned (v0_) ∧ Kd.R (Kd.int .i64) 3 w' w.heap.size (fun _ => True) v0_ r ∧ Below w.heap.size w w' := by
 unfold enter_Start.f at h
 by_cases c : M.validB l0_0 l0_1 = true ∧ (EW.startL l0_0 l0_1).length < 17592186044416
 ·rw [if_pos c] at h
  obtain rfl := Option.some.inj h
  exact EW.start_calls hr0_0 hc0_0 hr0_1 hc0_1 (M.Ok.of_valid c.1) c.2
 ·rw [if_neg c] at h; exact absurd h (by simp)
end Go.Proofs.Ytnomeokicfpidaa.Q
namespace Go.Proofs.Ytnomeokicfpidaa.Q
open Go.RowKit Go.Proofs.YtnomeokicfpidaaW.PrintWords Go.Proofs.YtnomeokicfpidaaW.PrintLast Go.Proofs.YtnomeokicfpidaaW.PrintMore
attribute [local go_sem] max2_int min2_int max_two min_two max_three min_three max_four min_four
set_option linter.unusedVariables false
set_option linter.unusedSimpArgs false
def imprimaturkeep_Same_int.l0 : Nat → List Int → List Int → Int → Option (Bool)
 | 0, _, _, _ => none
 | k + 1, x0, x1, x5 => if x5 < (x0.length : Int) then (if 0 ≤ x5 then (if x5 < (x1.length : Int) then (if (rd x0 x5) = (rd x1 x5) then (imprimaturkeep_Same_int.l0 k x0 x1 (wrap64 (x5 + 1))) else (some false)) else (none)) else (none)) else (some true)
def imprimaturkeep_Same_int.f (k : Nat) (l0 : List Int) (l1 : List Int) : Option (Bool) := if (l0.length : Int) = (l1.length : Int) then (imprimaturkeep_Same_int.l0 k l0 l1 0) else (some false)
theorem imprimaturkeep_Same_int.mono_l : ∀ k, (∀ y0 y1 y2, LeO (imprimaturkeep_Same_int.l0 k y0 y1 y2) (imprimaturkeep_Same_int.l0 (k + 1) y0 y1 y2))
 | 0 => fun _ _ _ r h => by simp [imprimaturkeep_Same_int.l0] at h
 | k + 1 => by
  have ih0 := imprimaturkeep_Same_int.mono_l k
  ·intro y0 y1 y2
   unfold imprimaturkeep_Same_int.l0
   repeat' first
   | (with_reducible exact ih0 _ _ _)
   | (with_reducible exact LeO.refl _)
   | (with_reducible exact LeO.none _)
   | (with_reducible refine LeO.ite ?_ ?_)
   | (with_reducible refine LeO.bind ?_ (fun _ => ?_))
   | exact ih0 _ _ _
   | exact LeO.none _
   | refine LeO.ite ?_ ?_
   | refine LeO.bind ?_ (fun _ => ?_)
theorem imprimaturkeep_Same_int.mono : ∀ a0 a1 k, LeO (imprimaturkeep_Same_int.f k a0 a1) (imprimaturkeep_Same_int.f (k + 1) a0 a1) := by
 intro a0 a1 k
 have ih0 := imprimaturkeep_Same_int.mono_l k
 unfold imprimaturkeep_Same_int.f
 repeat' first
   | (with_reducible exact ih0 _ _ _)
   | (with_reducible exact LeO.refl _)
   | (with_reducible exact LeO.none _)
   | (with_reducible refine LeO.ite ?_ ?_)
   | (with_reducible refine LeO.bind ?_ (fun _ => ?_))
   | exact ih0 _ _ _
   | exact LeO.none _
   | refine LeO.ite ?_ ?_
   | refine LeO.bind ?_ (fun _ => ?_)
set_option maxHeartbeats 8000000 in
set_option maxRecDepth 100000 in
theorem imprimaturkeep_Same_int.calls (k : Nat) (A0 : Option Addr) (c0 : Nat) (l0 : List Int) (A1 : Option Addr) (c1 : Nat) (l1 : List Int) (r : Bool) (w : World) (hr0 : Kd.C (Kd.int .i64) w A0 l0.length l0) (hc0 : l0.length ≤ c0) (hr1 : Kd.C (Kd.int .i64) w A1 l1.length l1) (hc1 : l1.length ≤ c1) (h : imprimaturkeep_Same_int.f k l0 l1 = some r) :
  Calls Try.prog 32 #[.slice A0 l0.length c0, .slice A1 l1.length c1] w fun e w' => e = .returned (.bool r) ∧ Drawn0 w w' := by
 have HR0 := Aside0.mk hr0
 have HC0 := Aside0.mk hc0
 clear hr0 hc0
 have HR1 := Aside0.mk hr1
 have HC1 := Aside0.mk hc1
 clear hr1 hc1
 have H : (if (l0.length : Int) = (l1.length : Int) then (imprimaturkeep_Same_int.l0 k l0 l1 0) else (some false)) = some r := h
 clear h
 by_cases c3 : (l0.length : Int) = (l1.length : Int)
 ·rw [if_pos c3] at H
  have c3b0 : ((l0.length : Int) == (l1.length : Int)) = true := beq_iff_eq.mpr c3
  have c3b1 : ((l0.length : Int) != (l1.length : Int)) = false := bne_eq_false_iff_eq.mpr c3
  have c3b2 : (l0.length == l1.length) = true := by first | simpa using c3 | (simp at c3 ⊢; omega)
  clear c3
  have H' := Aside0.mk H
  clear H
  go_enter Try.func32, Try.ntmps32
  go_wp2
  repeat (go_quiet (fail); try go_wp2)
  go_loopg [5] k (fun kq v5 w' => ∃ (x5_1 : Int), v5 = .int .i64 x5_1 ∧ Aside0 (imprimaturkeep_Same_int.l0 kq l0 l1 x5_1 = some r) ∧ Aside0 (kq ≤ k) ∧ Drawn0 w w')
  case atStart => exact ⟨(0), (by first | rfl | (simp; done) | (simp [*]; done)), H', ⟨Nat.le_refl _⟩, by repeat (first | exact Drawn0.refl _ | apply Drawn0.step)⟩
  case round =>
   clear H'
   try clear c1
   try clear p2
   try clear c3
   try clear c3b0
   try clear c3b1
   try clear c3b2
   obtain ⟨x5_1, rfl, HA, HK1, ⟨m1, rfl⟩⟩ := hrel
   cases gk with
   | zero => exact absurd HA.out (by simp [imprimaturkeep_Same_int.l0])
   | succ k1 =>
    have H := HA.out
    clear HA
    simp only [imprimaturkeep_Same_int.l0] at H
    by_cases c4 : x5_1 < (l0.length : Int)
    ·rw [if_pos c4] at H
     have c4b0 : decide (x5_1 < (l0.length : Int)) = true := decide_eq_true c4
     clear c4
     by_cases c5 : 0 ≤ x5_1
     ·rw [if_pos c5] at H
      have c5b0 : decide (0 ≤ x5_1) = true := decide_eq_true c5
      clear c5
      by_cases c6 : x5_1 < (l1.length : Int)
      ·rw [if_pos c6] at H
       have c6b0 : decide (x5_1 < (l1.length : Int)) = true := decide_eq_true c6
       clear c6
       by_cases c7 : (rd l0 x5_1) = (rd l1 x5_1)
       ·rw [if_pos c7] at H
        have c7b0 : ((rd l0 x5_1) == (rd l1 x5_1)) = true := beq_iff_eq.mpr c7
        have c7b1 : ((rd l0 x5_1) != (rd l1 x5_1)) = false := bne_eq_false_iff_eq.mpr c7
        clear c7
        have H' := Aside0.mk H
        clear H
        have p101 : 0 ≤ (x5_1 : Int) := of_decide_eq_true (by first | (with_reducible assumption) | assumption)
        have q101 : x5_1 < (l0.length : Int) := of_decide_eq_true (by first | (with_reducible assumption) | assumption)
        obtain ⟨ad101, e101, hx101_0⟩ := Kd.at_int HR0.out x5_1 p101 q101
        cases e101
        replace p101 := eq_true p101
        replace q101 := eq_true q101
        have p102 : 0 ≤ (x5_1 : Int) := of_decide_eq_true (by first | (with_reducible assumption) | assumption)
        have q102 : x5_1 < (l1.length : Int) := of_decide_eq_true (by first | (with_reducible assumption) | assumption)
        obtain ⟨ad102, e102, hx102_0⟩ := Kd.at_int HR1.out x5_1 p102 q102
        cases e102
        replace p102 := eq_true p102
        replace q102 := eq_true q102
        go_wp2
        repeat (go_quiet (fail); try go_wp2)
        go_roundg k1
        case measure => have := HK1.out; omega
        case rel => exact ⟨(wrap64 (x5_1 + 1)), (by first | rfl | (simp; done) | (simp [*]; done)), H', ⟨by have := HK1.out; omega⟩, by repeat (first | exact Drawn0.refl _ | apply Drawn0.step)⟩
       ·rw [if_neg c7] at H
        have c7b0 : ((rd l0 x5_1) == (rd l1 x5_1)) = false := beq_eq_false_iff_ne.mpr c7
        have c7b1 : ((rd l0 x5_1) != (rd l1 x5_1)) = true := bne_iff_ne.mpr c7
        obtain rfl := Option.some.inj H
        have p101 : 0 ≤ (x5_1 : Int) := of_decide_eq_true (by first | (with_reducible assumption) | assumption)
        have q101 : x5_1 < (l0.length : Int) := of_decide_eq_true (by first | (with_reducible assumption) | assumption)
        obtain ⟨ad101, e101, hx101_0⟩ := Kd.at_int HR0.out x5_1 p101 q101
        cases e101
        replace p101 := eq_true p101
        replace q101 := eq_true q101
        have p102 : 0 ≤ (x5_1 : Int) := of_decide_eq_true (by first | (with_reducible assumption) | assumption)
        have q102 : x5_1 < (l1.length : Int) := of_decide_eq_true (by first | (with_reducible assumption) | assumption)
        obtain ⟨ad102, e102, hx102_0⟩ := Kd.at_int HR1.out x5_1 p102 q102
        cases e102
        replace p102 := eq_true p102
        replace q102 := eq_true q102
        go_wp2
        repeat (go_quiet (fail); try go_wp2)
        go_ret
        exact ⟨by first | rfl | (simp; done) | (simp [*]; done), by repeat (first | exact Drawn0.refl _ | apply Drawn0.step)⟩
      ·rw [if_neg c6] at H
       exact absurd H (by simp)
     ·rw [if_neg c5] at H
      exact absurd H (by simp)
    ·rw [if_neg c4] at H
     have c4b0 : decide (x5_1 < (l0.length : Int)) = false := decide_eq_false c4
     clear c4
     obtain rfl := Option.some.inj H
     go_wp2
     repeat (go_quiet (fail); try go_wp2)
     go_ret
     exact ⟨by first | rfl | (simp; done) | (simp [*]; done), by repeat (first | exact Drawn0.refl _ | apply Drawn0.step)⟩
 ·rw [if_neg c3] at H
  have c3b0 : ((l0.length : Int) == (l1.length : Int)) = false := beq_eq_false_iff_ne.mpr c3
  have c3b1 : ((l0.length : Int) != (l1.length : Int)) = true := bne_iff_ne.mpr c3
  have c3b2 : (l0.length == l1.length) = false := by first | simpa using c3 | (simp at c3 ⊢; omega)
  obtain rfl := Option.some.inj H
  go_enter Try.func32, Try.ntmps32
  go_wp2
  repeat (go_quiet (fail); try go_wp2)
  go_ret
  exact ⟨by first | rfl | (simp; done) | (simp [*]; done), by repeat (first | exact Drawn0.refl _ | apply Drawn0.step)⟩
end Go.Proofs.Ytnomeokicfpidaa.Q
namespace Go.Proofs.Ytnomeokicfpidaa.Q
open Go.RowKit Go.Proofs.YtnomeokicfpidaaW.PrintWords Go.Proofs.YtnomeokicfpidaaW.PrintLast Go.Proofs.YtnomeokicfpidaaW.PrintMore
attribute [local go_sem] max2_int min2_int max_two min_two max_three min_three max_four min_four
set_option linter.unusedVariables false
set_option linter.unusedSimpArgs false
def imprimaturlaw07_wakes.f (k : Nat)  : Option (Bool) := (enter_Start.f (([1] : List Int)) (([(-1)] : List Int))).bind fun t107 => ((imprimaturkeep_Same_int.f k t107 (([0] : List Int))).bind fun t113 => (some t113))
theorem imprimaturlaw07_wakes.mono : ∀ k, LeO (imprimaturlaw07_wakes.f k ) (imprimaturlaw07_wakes.f (k + 1) ) := by
 intro  k
 unfold imprimaturlaw07_wakes.f
 repeat' first
   | (with_reducible exact imprimaturkeep_Same_int.mono _ _ _)
   | (with_reducible exact LeO.refl _)
   | (with_reducible exact LeO.none _)
   | (with_reducible refine LeO.ite ?_ ?_)
   | (with_reducible refine LeO.bind ?_ (fun _ => ?_))
   | exact imprimaturkeep_Same_int.mono _ _ _
   | exact LeO.none _
   | refine LeO.ite ?_ ?_
   | refine LeO.bind ?_ (fun _ => ?_)
set_option maxHeartbeats 8000000 in
set_option maxRecDepth 100000 in
theorem imprimaturlaw07_wakes.calls (k : Nat)  (r : Bool) (w : World) (h : imprimaturlaw07_wakes.f k  = some r) :
  Calls Try.prog 28 #[] w fun e w' => e = .returned (.bool r) ∧ Below w.heap.size w w' := by
 have hu24 := Try.underlying24
 have HB := Aside0.mk (Below.refl w.heap.size w)
 have H : ((enter_Start.f (([1] : List Int)) (([(-1)] : List Int))).bind fun t107 => ((imprimaturkeep_Same_int.f k t107 (([0] : List Int))).bind fun t113 => (some t113))) = some r := h
 clear h
 obtain ⟨y101, hy101⟩ : ∃ y_ : List Int, y_ = (([1] : List Int)) := ⟨_, rfl⟩
 replace H : ((enter_Start.f y101 (([(-1)] : List Int))).bind fun t107 => ((imprimaturkeep_Same_int.f k t107 (([0] : List Int))).bind fun t113 => (some t113))) = some r := by first | (rw [hy101]; with_reducible exact H) | (have H2_ := (Option.bind_some _ _).symm.trans H; rw [hy101]; with_reducible exact H2_) | (have H2_ := (Option.bind_some _ _).symm.trans H; with_reducible exact H2_) | with_reducible exact H | (rw [hy101]; exact H) | exact H
 have Ny101 := Aside0.mk hy101
 clear hy101
 obtain ⟨y104, hy104⟩ : ∃ y_ : List Int, y_ = (([(-1)] : List Int)) := ⟨_, rfl⟩
 replace H : ((enter_Start.f y101 y104).bind fun t107 => ((imprimaturkeep_Same_int.f k t107 (([0] : List Int))).bind fun t113 => (some t113))) = some r := by first | (rw [hy104]; with_reducible exact H) | (have H2_ := (Option.bind_some _ _).symm.trans H; rw [hy104]; with_reducible exact H2_) | (have H2_ := (Option.bind_some _ _).symm.trans H; with_reducible exact H2_) | with_reducible exact H | (rw [hy104]; exact H) | exact H
 have Ny104 := Aside0.mk hy104
 clear hy104
 replace H := Option.bind_eq_some_iff.mp H
 obtain ⟨t107, A10, H⟩ := H
 replace H : ((imprimaturkeep_Same_int.f k t107 (([0] : List Int))).bind fun t113 => (some t113)) = some r := H
 have A1 := Aside0.mk A10
 clear A10
 obtain ⟨y110, hy110⟩ : ∃ y_ : List Int, y_ = (([0] : List Int)) := ⟨_, rfl⟩
 replace H : ((imprimaturkeep_Same_int.f k t107 y110).bind fun t113 => (some t113)) = some r := by first | (rw [hy110]; with_reducible exact H) | (have H2_ := (Option.bind_some _ _).symm.trans H; rw [hy110]; with_reducible exact H2_) | (have H2_ := (Option.bind_some _ _).symm.trans H; with_reducible exact H2_) | with_reducible exact H | (rw [hy110]; exact H) | exact H
 have Ny110 := Aside0.mk hy110
 clear hy110
 replace H := Option.bind_eq_some_iff.mp H
 obtain ⟨t113, A20, H⟩ := H
 replace H : (some t113) = some r := H
 have A2 := Aside0.mk A20
 clear A20
 obtain rfl := Option.some.inj H
 go_enter Try.func28, Try.ntmps28
 go_wp2_with (first | ((with_reducible refine gate_dst (N := 1) rfl ?_); refine Kd.R_lit (Kd.int .i64) _ 3 ?hg (N := 1) ?hd (xs := ([1] : List Int)) (inner := [.int .i64 1]) (ok := fun _ => True) (okp := fun _ => True) ?hr ?hp (fun _ hk => hk) trivial (Below.refl _ _) (Nat.le_refl _) (by simp) ?_; (case hd => rfl); (case hg => rfl); (case hr => first | (go_simp; done) | (go_simp; rfl)); (case hp => exact (Reps.one (show Kd.M (Kd.int .i64) _ _ _ 1 [.int .i64 1] from rfl) (Reps.none _ _))); intro v102 w3 ho4 hb hg_ hnew_; clear hg_ hnew_; (first | rw [← Ny101.out] at ho4 | (simp only [Int.reduceToNat] at ho4; rw [← Ny101.out] at ho4)); have n0_ := Aside0.mk (Kd.R_lower ho4 (below_size (by repeat (first | (with_reducible first | exact HB.out | apply below_alloc | apply pw_below_drewN | apply below_drew1) | exact HB.out)))); have n1_ := Aside0.mk (below_step (by repeat (first | (with_reducible first | exact HB.out | apply below_alloc | apply pw_below_drewN | apply below_drew1) | exact HB.out)) hb); clear HB; have HO103 := n0_; have HB := n1_; clear n0_ n1_; clear hb ho4) | ((with_reducible refine gate_dst (N := 2) rfl ?_); refine Kd.R_lit (Kd.int .i64) _ 3 ?hg (N := 2) ?hd (xs := ([(-1)] : List Int)) (inner := [.int .i64 (-1)]) (ok := fun _ => True) (okp := fun _ => True) ?hr ?hp (fun _ hk => hk) trivial (Below.refl _ _) (Nat.le_refl _) (by simp) ?_; (case hd => rfl); (case hg => rfl); (case hr => first | (go_simp; done) | (go_simp; rfl)); (case hp => exact (Reps.one (show Kd.M (Kd.int .i64) _ _ _ (-1) [.int .i64 (-1)] from rfl) (Reps.none _ _))); intro v105 w5 ho6 hb hg_ hnew_; clear hg_ hnew_; (first | rw [← Ny104.out] at ho6 | (simp only [Int.reduceToNat] at ho6; rw [← Ny104.out] at ho6)); have n0_ := Aside0.mk (Kd.R_elder' (by (with_reducible repeat (first | apply Kd.R_alloc | apply Kd.R_drewN | apply Kd.R_drew)); exact HO103.out) (Kd.R_base ho6) hb); have n1_ := Aside0.mk (Kd.R_lower (Kd.R_new' ho6 (Kd.R_lt (by (with_reducible repeat (first | apply Kd.R_alloc | apply Kd.R_drewN | apply Kd.R_drew)); exact HO103.out))) (below_size (by repeat (first | (with_reducible first | exact HB.out | apply below_alloc | apply pw_below_drewN | apply below_drew1) | exact HB.out)))); have n2_ := Aside0.mk (below_step (by repeat (first | (with_reducible first | exact HB.out | apply below_alloc | apply pw_below_drewN | apply below_drew1) | exact HB.out)) hb); clear HO103; clear HB; have HO103 := n0_; have HO106 := n1_; have HB := n2_; clear n0_ n1_ n2_; clear hb ho6; obtain ⟨Ao7, co7, eo7⟩ := Kd.R_slice HO106.out; subst eo7; obtain ⟨Ao8, co8, eo8⟩ := Kd.R_slice HO103.out; subst eo8) | ((with_reducible refine gate_callee (f := 29) rfl ?_); refine goesL_ (some 4) rfl rfl Try.func29 (by kernel_rfl) rfl #[.agg #[.slice Ao8 y101.length co8, .slice Ao7 y104.length co7]] rfl (by (try simp only [List.map_toArray, List.map_cons, List.map_nil]); first | done | rfl | (simp only [List.length_drop, List.length_take]; rfl)) ?_; (with_reducible refine (enter_Start.calls _ _ y101 _ _ y104 t107 _ ?side1 ?side2 ?side3 ?side4 A1.out).mono ?_); (case side1 => repeat (first | exact (Kd.R_reads' HO103.out).2.2 | (with_reducible refine Kd.C_alloc ?_ _) | (with_reducible refine Kd.C_drewN ?_ _) | (with_reducible refine Kd.C_drew ?_))); (case side2 => exact (Kd.R_reads' HO103.out).2.1); (case side3 => repeat (first | exact (Kd.R_reads' HO106.out).2.2 | (with_reducible refine Kd.C_alloc ?_ _) | (with_reducible refine Kd.C_drewN ?_ _) | (with_reducible refine Kd.C_drew ?_))); (case side4 => exact (Kd.R_reads' HO106.out).2.1); rintro e w9 ⟨v108, rfl, ho0, hb⟩; refine ⟨_, rfl, ?_⟩; have n0_ := Aside0.mk (Kd.R_elder' (by (with_reducible repeat (first | apply Kd.R_alloc | apply Kd.R_drewN | apply Kd.R_drew)); exact HO103.out) (Kd.R_base ho0) hb); have n1_ := Aside0.mk (Kd.R_elder' (by (with_reducible repeat (first | apply Kd.R_alloc | apply Kd.R_drewN | apply Kd.R_drew)); exact HO106.out) (Kd.R_base ho0) hb); have n2_ := Aside0.mk (Kd.R_lower (Kd.R_new' (Kd.R_new' ho0 (Kd.R_lt (by (with_reducible repeat (first | apply Kd.R_alloc | apply Kd.R_drewN | apply Kd.R_drew)); exact HO103.out))) (Kd.R_lt (by (with_reducible repeat (first | apply Kd.R_alloc | apply Kd.R_drewN | apply Kd.R_drew)); exact HO106.out))) (below_size (by repeat (first | (with_reducible first | exact HB.out | apply below_alloc | apply pw_below_drewN | apply below_drew1) | exact HB.out)))); have n3_ := Aside0.mk (below_step (by repeat (first | (with_reducible first | exact HB.out | apply below_alloc | apply pw_below_drewN | apply below_drew1) | exact HB.out)) hb); clear HO103; clear HO106; clear HB; have HO103 := n0_; have HO106 := n1_; have HO109 := n2_; have HB := n3_; clear n0_ n1_ n2_ n3_; (try clear hb); (try clear hb2); (try clear hk); (try clear hi); (try clear ho0)) | ((with_reducible refine gate_dst (N := 5) rfl ?_); refine Kd.R_lit (Kd.int .i64) _ 3 ?hg (N := 5) ?hd (xs := ([0] : List Int)) (inner := [.int .i64 0]) (ok := fun _ => True) (okp := fun _ => True) ?hr ?hp (fun _ hk => hk) trivial (Below.refl _ _) (Nat.le_refl _) (by simp) ?_; (case hd => rfl); (case hg => rfl); (case hr => first | (go_simp; done) | (go_simp; rfl)); (case hp => exact (Reps.one (show Kd.M (Kd.int .i64) _ _ _ 0 [.int .i64 0] from rfl) (Reps.none _ _))); intro v111 w10 ho11 hb hg_ hnew_; clear hg_ hnew_; (first | rw [← Ny110.out] at ho11 | (simp only [Int.reduceToNat] at ho11; rw [← Ny110.out] at ho11)); have n0_ := Aside0.mk (Kd.R_elder' (by (with_reducible repeat (first | apply Kd.R_alloc | apply Kd.R_drewN | apply Kd.R_drew)); exact HO103.out) (Kd.R_base ho11) hb); have n1_ := Aside0.mk (Kd.R_elder' (by (with_reducible repeat (first | apply Kd.R_alloc | apply Kd.R_drewN | apply Kd.R_drew)); exact HO106.out) (Kd.R_base ho11) hb); have n2_ := Aside0.mk (Kd.R_elder' (by (with_reducible repeat (first | apply Kd.R_alloc | apply Kd.R_drewN | apply Kd.R_drew)); exact HO109.out) (Kd.R_base ho11) hb); have n3_ := Aside0.mk (Kd.R_lower (Kd.R_new' (Kd.R_new' (Kd.R_new' ho11 (Kd.R_lt (by (with_reducible repeat (first | apply Kd.R_alloc | apply Kd.R_drewN | apply Kd.R_drew)); exact HO103.out))) (Kd.R_lt (by (with_reducible repeat (first | apply Kd.R_alloc | apply Kd.R_drewN | apply Kd.R_drew)); exact HO106.out))) (Kd.R_lt (by (with_reducible repeat (first | apply Kd.R_alloc | apply Kd.R_drewN | apply Kd.R_drew)); exact HO109.out))) (below_size (by repeat (first | (with_reducible first | exact HB.out | apply below_alloc | apply pw_below_drewN | apply below_drew1) | exact HB.out)))); have n4_ := Aside0.mk (below_step (by repeat (first | (with_reducible first | exact HB.out | apply below_alloc | apply pw_below_drewN | apply below_drew1) | exact HB.out)) hb); clear HO103; clear HO106; clear HO109; clear HB; have HO103 := n0_; have HO106 := n1_; have HO109 := n2_; have HO112 := n3_; have HB := n4_; clear n0_ n1_ n2_ n3_ n4_; clear hb ho11; obtain ⟨Ao12, co12, eo12⟩ := Kd.R_slice HO109.out; subst eo12; obtain ⟨Ao13, co13, eo13⟩ := Kd.R_slice HO112.out; subst eo13) | ((with_reducible refine gate_callee (f := 32) rfl ?_); refine goesL_ (some 6) rfl rfl Try.func32 (by kernel_rfl) rfl #[.slice Ao12 t107.length co12, .slice Ao13 y110.length co13] rfl (by (try simp only [List.map_toArray, List.map_cons, List.map_nil]); first | done | rfl | (simp only [List.length_drop, List.length_take]; rfl)) ?_; (with_reducible refine (imprimaturkeep_Same_int.calls k _ _ t107 _ _ y110 t113 _ ?side1 ?side2 ?side3 ?side4 A2.out).mono ?_); (case side1 => repeat (first | exact (Kd.R_reads' HO109.out).2.2 | (with_reducible refine Kd.C_alloc ?_ _) | (with_reducible refine Kd.C_drewN ?_ _) | (with_reducible refine Kd.C_drew ?_))); (case side2 => exact (Kd.R_reads' HO109.out).2.1); (case side3 => repeat (first | exact (Kd.R_reads' HO112.out).2.2 | (with_reducible refine Kd.C_alloc ?_ _) | (with_reducible refine Kd.C_drewN ?_ _) | (with_reducible refine Kd.C_drew ?_))); (case side4 => exact (Kd.R_reads' HO112.out).2.1); rintro e w' ⟨rfl, ⟨nd, rfl⟩⟩; refine ⟨_, rfl, ?_⟩))
 go_ret
 exact ⟨by first | rfl | (simp [errW_none, errW_some] <;> rfl) | (simp [*, errW_none, errW_some] <;> rfl), by repeat (first | (with_reducible first | exact HB.out | apply below_alloc | apply pw_below_drewN | apply below_drew1) | exact HB.out)⟩
end Go.Proofs.Ytnomeokicfpidaa.Q
