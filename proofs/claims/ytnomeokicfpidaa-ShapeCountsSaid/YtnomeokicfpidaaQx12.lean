-- printed by myprint.py: a program of this repo over the kit's print
import Derived.Test.YtnomeokicfpidaaQx0
import Derived.Test.YtnomeokicfpidaaQx3
import Derived.Test.YtnomeokicfpidaaQx4
import Derived.Test.YtnomeokicfpidaaQx9
import Derived.Test.YtnomeokicfpidaaQx10
import Derived.Test.YtnomeokicfpidaaQx11
namespace Go.Proofs.Ytnomeokicfpidaa.Q
open Go.RowKit Go.Proofs.YtnomeokicfpidaaW.PrintWords Go.Proofs.YtnomeokicfpidaaW.PrintLast Go.Proofs.YtnomeokicfpidaaW.PrintMore
attribute [local go_sem] max2_int min2_int max_two min_two max_three min_three max_four min_four   -- for this text's walks alone
set_option linter.unusedVariables false
set_option linter.unusedSimpArgs false

/-! ### imprimaturlaw06_ShapeCounts: function 3 -/
def imprimaturlaw06_ShapeCounts.l0 : Nat → Int → Int → List Int → List Int → Option (Bool)
  | 0, _, _, _, _ => none
  | k + 1, x5, x6, x117000, x117001 => if 0 ≤ (IntKind.u64.wrap ((x117000.length : Int))) then (if x6 < (shl .u32 1 (IntKind.u64.wrap ((x117000.length : Int)))) then ((shape_Proper.f k x117000 x117001 x6).bind fun t118 => (if t118 = true then (imprimaturlaw06_ShapeCounts.l0 k (wrap64 (x5 + 1)) ((x6 + 1) % 4294967296) x117000 x117001) else (imprimaturlaw06_ShapeCounts.l0 k x5 ((x6 + 1) % 4294967296) x117000 x117001))) else ((imprimaturlaw06_ways.f k x117000 x117001 (-1)).bind fun t119 => (if x5 = t119 then ((imprimaturlaw06_wakes.f k).bind fun t120 => (some t120)) else (some false)))) else (none)
def imprimaturlaw06_ShapeCounts.f (k : Nat) (l0 : List Int) : Option (Bool) := (imprimaturkeep_Cut_int.f l0 9).bind fun t101 => ((imprimaturlaw06_Of.f k t101).bind fun bt104 => (imprimaturlaw06_ShapeCounts.l0 k 0 0 bt104.1 bt104.2.1))
theorem imprimaturlaw06_ShapeCounts.mono_l : ∀ k, (∀ y0 y1 y2 y3, LeO (imprimaturlaw06_ShapeCounts.l0 k y0 y1 y2 y3) (imprimaturlaw06_ShapeCounts.l0 (k + 1) y0 y1 y2 y3))
  | 0 => fun _ _ _ _ r h => by simp [imprimaturlaw06_ShapeCounts.l0] at h
  | k + 1 => by
    have ih0 := imprimaturlaw06_ShapeCounts.mono_l k
    · intro y0 y1 y2 y3
      unfold imprimaturlaw06_ShapeCounts.l0
      repeat' first
      | (with_reducible exact ih0 _ _ _ _)
      | (with_reducible exact imprimaturlaw06_Of.mono _ _)
      | (with_reducible exact imprimaturlaw06_wakes.mono _)
      | (with_reducible exact imprimaturlaw06_ways.mono _ _ _ _)
      | (with_reducible exact shape_Proper.mono _ _ _ _)
      | (with_reducible exact LeO.refl _)
      | (with_reducible exact LeO.none _)
      | (with_reducible refine LeO.ite ?_ ?_)
      | (with_reducible refine LeO.bind ?_ (fun _ => ?_))
      | exact ih0 _ _ _ _
      | exact imprimaturlaw06_Of.mono _ _
      | exact imprimaturlaw06_wakes.mono _
      | exact imprimaturlaw06_ways.mono _ _ _ _
      | exact shape_Proper.mono _ _ _ _
      | exact LeO.none _
      | refine LeO.ite ?_ ?_
      | refine LeO.bind ?_ (fun _ => ?_)
theorem imprimaturlaw06_ShapeCounts.mono : ∀ a0 k, LeO (imprimaturlaw06_ShapeCounts.f k a0) (imprimaturlaw06_ShapeCounts.f (k + 1) a0) := by
  intro a0 k
  have ih0 := imprimaturlaw06_ShapeCounts.mono_l k
  unfold imprimaturlaw06_ShapeCounts.f
  repeat' first
      | (with_reducible exact ih0 _ _ _ _)
      | (with_reducible exact imprimaturlaw06_Of.mono _ _)
      | (with_reducible exact imprimaturlaw06_wakes.mono _)
      | (with_reducible exact imprimaturlaw06_ways.mono _ _ _ _)
      | (with_reducible exact shape_Proper.mono _ _ _ _)
      | (with_reducible exact LeO.refl _)
      | (with_reducible exact LeO.none _)
      | (with_reducible refine LeO.ite ?_ ?_)
      | (with_reducible refine LeO.bind ?_ (fun _ => ?_))
      | exact ih0 _ _ _ _
      | exact imprimaturlaw06_Of.mono _ _
      | exact imprimaturlaw06_wakes.mono _
      | exact imprimaturlaw06_ways.mono _ _ _ _
      | exact shape_Proper.mono _ _ _ _
      | exact LeO.none _
      | refine LeO.ite ?_ ?_
      | refine LeO.bind ?_ (fun _ => ?_)
set_option maxHeartbeats 8000000 in
set_option maxRecDepth 100000 in
theorem imprimaturlaw06_ShapeCounts.calls (k : Nat) (A0 : Option Addr) (c0 : Nat) (l0 : List Int) (r : Bool) (w : World) (hr0 : Kd.C (Kd.int .i64) w A0 l0.length l0) (hc0 : l0.length ≤ c0) (h : imprimaturlaw06_ShapeCounts.f k l0 = some r) :
    Calls Try.prog 3 #[.slice A0 l0.length c0] w fun e w' => e = .returned (.bool r) ∧ Below w.heap.size w w' := by
  have hu24 := Try.underlying24
  have hu25 := Try.underlying25
  have HR0 := Aside0.mk hr0
  have HC0 := Aside0.mk hc0
  clear hr0 hc0
  have HB := Aside0.mk (Below.refl w.heap.size w)
  have H : ((imprimaturkeep_Cut_int.f l0 9).bind fun t101 => ((imprimaturlaw06_Of.f k t101).bind fun bt104 => (imprimaturlaw06_ShapeCounts.l0 k 0 0 bt104.1 bt104.2.1))) = some r := h
  clear h
  replace H := Option.bind_eq_some_iff.mp H
  obtain ⟨t101, A20, H⟩ := H
  replace H : ((imprimaturlaw06_Of.f k t101).bind fun bt104 => (imprimaturlaw06_ShapeCounts.l0 k 0 0 bt104.1 bt104.2.1)) = some r := H
  have A2 := Aside0.mk A20
  clear A20
  replace H := Option.bind_eq_some_iff.mp H
  obtain ⟨⟨t104, t107, t110, t113⟩, A30, H⟩ := H
  replace H : (imprimaturlaw06_ShapeCounts.l0 k 0 0 t104 t107) = some r := H
  have A3 := Aside0.mk A30
  clear A30
  have H' := Aside0.mk H
  clear H
  go_enter Try.func3, Try.ntmps3
  go_wp2_with (first | ((with_reducible refine gate_callee (f := 14) rfl ?_); refine goesL_ (some 9) rfl rfl Try.func14 (by kernel_rfl) rfl #[.slice A0 l0.length c0, .int .i64 9] rfl (by (try simp only [List.map_toArray, List.map_cons, List.map_nil]); first | done | rfl | (simp only [List.length_drop, List.length_take]; rfl)) ?_; (with_reducible refine (imprimaturkeep_Cut_int.calls _ _ l0 9 t101 _ ?side1 ?side2 A2.out).mono ?_); (case side1 => repeat (first | exact HR0.out | (with_reducible refine Kd.C_alloc ?_ _) | (with_reducible refine Kd.C_drewN ?_ _) | (with_reducible refine Kd.C_drew ?_))); (case side2 => exact HC0.out); rintro e w4 ⟨v102, rfl, ho0, hb⟩; refine ⟨_, rfl, ?_⟩; have n0_ := Aside0.mk (Kd.R_lower ho0 (below_size (by repeat (first | (with_reducible first | exact HB.out | apply below_alloc | apply pw_below_drewN | apply below_drew1) | exact HB.out)))); have n1_ := Aside0.mk (below_step (by repeat (first | (with_reducible first | exact HB.out | apply below_alloc | apply pw_below_drewN | apply below_drew1) | exact HB.out)) hb); clear HB; have HO103 := n0_; have HB := n1_; clear n0_ n1_; (try clear hb); (try clear hb2); (try clear hk); (try clear hi); (try clear ho0); obtain ⟨Ao5, co5, eo5⟩ := Kd.R_slice HO103.out; subst eo5) | ((with_reducible refine gate_callee (f := 13) rfl ?_); refine goesL_ (some 10) rfl rfl Try.func13 (by kernel_rfl) rfl #[.slice Ao5 t101.length co5] rfl (by (try simp only [List.map_toArray, List.map_cons, List.map_nil]); first | done | rfl | (simp only [List.length_drop, List.length_take]; rfl)) ?_; (with_reducible refine (imprimaturlaw06_Of.calls k _ _ t101 t104 t107 t110 t113 _ ?side1 ?side2 A3.out).mono ?_); (case side1 => repeat (first | exact (Kd.R_reads' HO103.out).2.2 | (with_reducible refine Kd.C_alloc ?_ _) | (with_reducible refine Kd.C_drewN ?_ _) | (with_reducible refine Kd.C_drew ?_))); (case side2 => exact (Kd.R_reads' HO103.out).2.1); rintro e w6 ⟨v105, v108, v111, v114, rfl, ho0, ho1, ho2, ho3, hb⟩; refine ⟨_, rfl, ?_⟩; have n0_ := Aside0.mk (Kd.R_mono (Kd.R_told (Kd.R_told (Kd.R_told (Kd.R_told (Kd.R_old (by (with_reducible repeat (first | apply Kd.R_alloc | apply Kd.R_drewN | apply Kd.R_drew)); exact HO103.out) hb) (Kd.R_base ho0)) (Kd.R_base ho1)) (Kd.R_base ho2)) (Kd.R_base ho3)) (fun _ h_ => h_.1)); have n1_ := Aside0.mk (Kd.R_lower (Kd.R_new' ho0 (Kd.R_lt (by (with_reducible repeat (first | apply Kd.R_alloc | apply Kd.R_drewN | apply Kd.R_drew)); exact HO103.out))) (below_size (by repeat (first | (with_reducible first | exact HB.out | apply below_alloc | apply pw_below_drewN | apply below_drew1) | exact HB.out)))); have n2_ := Aside0.mk (Kd.R_lower (Kd.R_new' ho1 (Kd.R_lt (by (with_reducible repeat (first | apply Kd.R_alloc | apply Kd.R_drewN | apply Kd.R_drew)); exact HO103.out))) (below_size (by repeat (first | (with_reducible first | exact HB.out | apply below_alloc | apply pw_below_drewN | apply below_drew1) | exact HB.out)))); have n3_ := Aside0.mk (Kd.R_lower (Kd.R_new' ho2 (Kd.R_lt (by (with_reducible repeat (first | apply Kd.R_alloc | apply Kd.R_drewN | apply Kd.R_drew)); exact HO103.out))) (below_size (by repeat (first | (with_reducible first | exact HB.out | apply below_alloc | apply pw_below_drewN | apply below_drew1) | exact HB.out)))); have n4_ := Aside0.mk (Kd.R_lower (Kd.R_new' ho3 (Kd.R_lt (by (with_reducible repeat (first | apply Kd.R_alloc | apply Kd.R_drewN | apply Kd.R_drew)); exact HO103.out))) (below_size (by repeat (first | (with_reducible first | exact HB.out | apply below_alloc | apply pw_below_drewN | apply below_drew1) | exact HB.out)))); have n5_ := Aside0.mk (below_step (by repeat (first | (with_reducible first | exact HB.out | apply below_alloc | apply pw_below_drewN | apply below_drew1) | exact HB.out)) hb); clear HO103; clear HB; have HO103 := n0_; have HO106 := n1_; have HO109 := n2_; have HO112 := n3_; have HO115 := n4_; have HB := n5_; clear n0_ n1_ n2_ n3_ n4_ n5_; (try clear hb); (try clear hb2); (try clear hk); (try clear hi); (try clear ho0); (try clear ho1); (try clear ho2); (try clear ho3)) | ((with_reducible refine gate_dst (N := 3) rfl ?_); refine box_event ?hg (N := 3) ?hd (cs := #[.slice none 0 0, .slice none 0 0]) (t := 24) ?hr ?_; (case hd => rfl); (case hg => rfl); (case hr => first | (go_simp; done) | (go_simp; rfl)); intro gb116 hg w7 hbox hb; have n0_ := Aside0.mk (Kd.R_below (by (with_reducible repeat (first | apply Kd.R_alloc | apply Kd.R_drewN | apply Kd.R_drew)); exact HO103.out) hb); have n1_ := Aside0.mk (Kd.R_below (by (with_reducible repeat (first | apply Kd.R_alloc | apply Kd.R_drewN | apply Kd.R_drew)); exact HO106.out) hb); have n2_ := Aside0.mk (Kd.R_below (by (with_reducible repeat (first | apply Kd.R_alloc | apply Kd.R_drewN | apply Kd.R_drew)); exact HO109.out) hb); have n3_ := Aside0.mk (Kd.R_below (by (with_reducible repeat (first | apply Kd.R_alloc | apply Kd.R_drewN | apply Kd.R_drew)); exact HO112.out) hb); have n4_ := Aside0.mk (Kd.R_below (by (with_reducible repeat (first | apply Kd.R_alloc | apply Kd.R_drewN | apply Kd.R_drew)); exact HO115.out) hb); have n5_ := Aside0.mk (below_step (by repeat (first | (with_reducible first | exact HB.out | apply below_alloc | apply pw_below_drewN | apply below_drew1) | exact HB.out)) hb); have n6_ := Aside0.mk (hbox); have n7_ := Aside0.mk ((by rw [hg]; exact (below_size (by repeat (first | (with_reducible first | exact HB.out | apply below_alloc | apply pw_below_drewN | apply below_drew1) | exact HB.out))) : w.heap.size ≤ gb116)); have n8_ := Aside0.mk ((by rw [hg]; exact (below_size (by repeat (first | (with_reducible first | exact HB.out | apply below_alloc | apply pw_below_drewN | apply below_drew1) | exact HB.out))) : w.heap.size ≤ gb116)); clear HO103; clear HO106; clear HO109; clear HO112; clear HO115; clear HB; have HO103 := n0_; have HO106 := n1_; have HO109 := n2_; have HO112 := n3_; have HO115 := n4_; have HB := n5_; have BK116 := n6_; have GW116 := n7_; have GE116 := n8_; clear n0_ n1_ n2_ n3_ n4_ n5_ n6_ n7_ n8_; clear hb hbox hg) | ((with_reducible refine gate_dst (N := 4) rfl ?_); refine box_event ?hg (N := 4) ?hd (cs := #[.slice none 0 0, .slice none 0 0]) (t := 25) ?hr ?_; (case hd => rfl); (case hg => rfl); (case hr => first | (go_simp; done) | (go_simp; rfl)); intro gb117 hg w8 hbox hb; have n0_ := Aside0.mk (Kd.R_below (by (with_reducible repeat (first | apply Kd.R_alloc | apply Kd.R_drewN | apply Kd.R_drew)); exact HO103.out) hb); have n1_ := Aside0.mk (Kd.R_below (by (with_reducible repeat (first | apply Kd.R_alloc | apply Kd.R_drewN | apply Kd.R_drew)); exact HO106.out) hb); have n2_ := Aside0.mk (Kd.R_below (by (with_reducible repeat (first | apply Kd.R_alloc | apply Kd.R_drewN | apply Kd.R_drew)); exact HO109.out) hb); have n3_ := Aside0.mk (Kd.R_below (by (with_reducible repeat (first | apply Kd.R_alloc | apply Kd.R_drewN | apply Kd.R_drew)); exact HO112.out) hb); have n4_ := Aside0.mk (Kd.R_below (by (with_reducible repeat (first | apply Kd.R_alloc | apply Kd.R_drewN | apply Kd.R_drew)); exact HO115.out) hb); have n5_ := Aside0.mk (blk_below (g := gb116) (o := .cells #[.slice none 0 0, .slice none 0 0] 24 (0, 0)) (by (with_reducible repeat (first | refine blk_drewN ?_ _ | refine blk_drew ?_ | refine blk_alloc ?_ _)); exact BK116.out) hb); have n6_ := Aside0.mk (below_step (by repeat (first | (with_reducible first | exact HB.out | apply below_alloc | apply pw_below_drewN | apply below_drew1 | refine below_set ?_ GE116.out) | exact HB.out)) hb); have n7_ := Aside0.mk (hbox); have n8_ := Aside0.mk ((by rw [hg]; exact (below_size (by repeat (first | (with_reducible first | exact HB.out | apply below_alloc | apply pw_below_drewN | apply below_drew1 | refine below_set ?_ GE116.out) | exact HB.out))) : w.heap.size ≤ gb117)); have n9_ := Aside0.mk ((by rw [hg]; exact (below_size (by repeat (first | (with_reducible first | exact HB.out | apply below_alloc | apply pw_below_drewN | apply below_drew1 | refine below_set ?_ GE116.out) | exact HB.out))) : w.heap.size ≤ gb117)); have n10_ := Aside0.mk ((by rw [hg]; exact Nat.ne_of_lt (blk_lt (g := gb116) (o := .cells #[.slice none 0 0, .slice none 0 0] 24 (0, 0)) (by (with_reducible repeat (first | refine blk_drewN ?_ _ | refine blk_drew ?_ | refine blk_alloc ?_ _)); exact BK116.out)) : gb116 ≠ gb117)); have n11_ := Aside0.mk ((by rw [hg]; exact Nat.ne_of_gt (blk_lt (g := gb116) (o := .cells #[.slice none 0 0, .slice none 0 0] 24 (0, 0)) (by (with_reducible repeat (first | refine blk_drewN ?_ _ | refine blk_drew ?_ | refine blk_alloc ?_ _)); exact BK116.out)) : gb117 ≠ gb116)); clear HO103; clear HO106; clear HO109; clear HO112; clear HO115; clear BK116; clear HB; have HO103 := n0_; have HO106 := n1_; have HO109 := n2_; have HO112 := n3_; have HO115 := n4_; have BK116 := n5_; have HB := n6_; have BK117 := n7_; have GW117 := n8_; have GE117 := n9_; have NB116_117 := n10_; have NB117_116 := n11_; clear n0_ n1_ n2_ n3_ n4_ n5_ n6_ n7_ n8_ n9_ n10_ n11_; clear hb hbox hg; obtain ⟨Ao9, co9, eo9⟩ := Kd.R_slice HO106.out; subst eo9; have hnb10 := NB116_117.out; have hnc10 := NB117_116.out; have hcz11_0 : w8.cell? ⟨gb116, 0, none⟩ = some (.slice none 0 0) := (blk_cell BK116.out 0).trans rfl; have hcz11_1 : w8.cell? ⟨gb116, 1, none⟩ = some (.slice none 0 0) := (blk_cell BK116.out 1).trans rfl; have hfz11_0 := blk_frozen BK116.out 0; have hfz11_1 := blk_frozen BK116.out 1; obtain ⟨Ao12, co12, eo12⟩ := Kd.R_slice HO109.out; subst eo12; obtain ⟨Ao13, co13, eo13⟩ := Kd.R_slice HO112.out; subst eo13; have hcz14_0 : w8.cell? ⟨gb117, 0, none⟩ = some (.slice none 0 0) := (blk_cell BK117.out 0).trans rfl; have hcz14_1 : w8.cell? ⟨gb117, 1, none⟩ = some (.slice none 0 0) := (blk_cell BK117.out 1).trans rfl; have hfz14_0 := blk_frozen BK117.out 0; have hfz14_1 := blk_frozen BK117.out 1; obtain ⟨Ao15, co15, eo15⟩ := Kd.R_slice HO115.out; subst eo15))
  go_loopg [5, 6] k (fun kq v5 v6 w' => ∃ (x5_1 : Int) (x6_1 : Int), v5 = .int .i64 x5_1 ∧ v6 = .int .u32 x6_1 ∧ Aside0 (imprimaturlaw06_ShapeCounts.l0 kq x5_1 x6_1 t104 t107 = some r) ∧ Aside0 (kq ≤ k) ∧ Aside0 (Kd.R (Kd.int .i64) 3 w' w.heap.size (fun k_ => some k_ ≠ ((.slice Ao12 t107.length co12) : Value).ownBlock ∧ some k_ ≠ ((.slice Ao13 t110.length co13) : Value).ownBlock ∧ some k_ ≠ ((.slice Ao15 t113.length co15) : Value).ownBlock) (.slice Ao9 t104.length co9) t104) ∧ Aside0 (Kd.R (Kd.int .i64) 3 w' w.heap.size (fun k_ => some k_ ≠ ((.slice Ao9 t104.length co9) : Value).ownBlock ∧ some k_ ≠ ((.slice Ao13 t110.length co13) : Value).ownBlock ∧ some k_ ≠ ((.slice Ao15 t113.length co15) : Value).ownBlock) (.slice Ao12 t107.length co12) t107) ∧ Aside0 (Kd.R (Kd.int .i64) 3 w' w.heap.size (fun k_ => some k_ ≠ ((.slice Ao9 t104.length co9) : Value).ownBlock ∧ some k_ ≠ ((.slice Ao12 t107.length co12) : Value).ownBlock ∧ some k_ ≠ ((.slice Ao15 t113.length co15) : Value).ownBlock) (.slice Ao13 t110.length co13) t110) ∧ Aside0 (Kd.R (Kd.int .i64) 3 w' w.heap.size (fun k_ => some k_ ≠ ((.slice Ao9 t104.length co9) : Value).ownBlock ∧ some k_ ≠ ((.slice Ao12 t107.length co12) : Value).ownBlock ∧ some k_ ≠ ((.slice Ao13 t110.length co13) : Value).ownBlock) (.slice Ao15 t113.length co15) t113) ∧ Aside0 (w'.heap[gb116]? = some (.cells #[(.slice Ao9 t104.length co9), (.slice Ao12 t107.length co12)] 24 (0, 0))) ∧ Aside0 (w'.heap[gb117]? = some (.cells #[(.slice Ao13 t110.length co13), (.slice Ao15 t113.length co15)] 25 (0, 0))) ∧ Aside0 (Below w.heap.size w w'))
  case atStart => exact ⟨(0), (0), (by first | rfl | (simp; done) | (simp [*]; done)), (by first | rfl | (simp; done) | (simp [*]; done)), H', ⟨Nat.le_refl _⟩, ⟨by (with_reducible repeat (first | apply Kd.R_alloc | apply Kd.R_drewN | apply Kd.R_drew)); exact Kd.R_mono (Kd.R_far (p := ⟨gb117, 1, none⟩) (Kd.R_far (p := ⟨gb117, 0, none⟩) (Kd.R_far (p := ⟨gb116, 1, none⟩) (Kd.R_far (p := ⟨gb116, 0, none⟩) (Kd.R_types (Kd.R_types HO106.out BK116.out (by decide)) BK117.out (by decide)) (fun _ hk => hk.1.2) (.slice Ao9 t104.length co9)) (fun _ hk => hk.1.2) (.slice Ao12 t107.length co12)) (fun _ hk => hk.2) (.slice Ao13 t110.length co13)) (fun _ hk => hk.2) (.slice Ao15 t113.length co15)) (fun _ hk => ⟨hk.1.1.1.1, ⟨hk.1.1.1.2.1, hk.1.1.1.2.2⟩⟩)⟩, ⟨by (with_reducible repeat (first | apply Kd.R_alloc | apply Kd.R_drewN | apply Kd.R_drew)); exact Kd.R_mono (Kd.R_far (p := ⟨gb117, 1, none⟩) (Kd.R_far (p := ⟨gb117, 0, none⟩) (Kd.R_far (p := ⟨gb116, 1, none⟩) (Kd.R_far (p := ⟨gb116, 0, none⟩) (Kd.R_types (Kd.R_types HO109.out BK116.out (by decide)) BK117.out (by decide)) (fun _ hk => hk.1.2) (.slice Ao9 t104.length co9)) (fun _ hk => hk.1.2) (.slice Ao12 t107.length co12)) (fun _ hk => hk.2) (.slice Ao13 t110.length co13)) (fun _ hk => hk.2) (.slice Ao15 t113.length co15)) (fun _ hk => ⟨hk.1.1.1.1, ⟨hk.1.1.1.2.1, hk.1.1.1.2.2⟩⟩)⟩, ⟨by (with_reducible repeat (first | apply Kd.R_alloc | apply Kd.R_drewN | apply Kd.R_drew)); exact Kd.R_mono (Kd.R_far (p := ⟨gb117, 1, none⟩) (Kd.R_far (p := ⟨gb117, 0, none⟩) (Kd.R_far (p := ⟨gb116, 1, none⟩) (Kd.R_far (p := ⟨gb116, 0, none⟩) (Kd.R_types (Kd.R_types HO112.out BK116.out (by decide)) BK117.out (by decide)) (fun _ hk => hk.1.2) (.slice Ao9 t104.length co9)) (fun _ hk => hk.1.2) (.slice Ao12 t107.length co12)) (fun _ hk => hk.2) (.slice Ao13 t110.length co13)) (fun _ hk => hk.2) (.slice Ao15 t113.length co15)) (fun _ hk => ⟨hk.1.1.1.1, ⟨hk.1.1.1.2.1, hk.1.1.1.2.2⟩⟩)⟩, ⟨by (with_reducible repeat (first | apply Kd.R_alloc | apply Kd.R_drewN | apply Kd.R_drew)); exact Kd.R_mono (Kd.R_far (p := ⟨gb117, 1, none⟩) (Kd.R_far (p := ⟨gb117, 0, none⟩) (Kd.R_far (p := ⟨gb116, 1, none⟩) (Kd.R_far (p := ⟨gb116, 0, none⟩) (Kd.R_types (Kd.R_types HO115.out BK116.out (by decide)) BK117.out (by decide)) (fun _ hk => hk.1.2) (.slice Ao9 t104.length co9)) (fun _ hk => hk.1.2) (.slice Ao12 t107.length co12)) (fun _ hk => hk.2) (.slice Ao13 t110.length co13)) (fun _ hk => hk.2) (.slice Ao15 t113.length co15)) (fun _ hk => ⟨hk.1.1.1.1, ⟨hk.1.1.1.2.1, hk.1.1.1.2.2⟩⟩)⟩, ⟨by (with_reducible repeat (first | refine blk_drewN ?_ _ | refine blk_drew ?_ | refine blk_alloc ?_ _)); refine blk_far ?_ NB116_117.out _; (with_reducible repeat (first | refine blk_drewN ?_ _ | refine blk_drew ?_ | refine blk_alloc ?_ _)); refine blk_far ?_ NB116_117.out _; (with_reducible repeat (first | refine blk_drewN ?_ _ | refine blk_drew ?_ | refine blk_alloc ?_ _)); refine blk_put (cs := #[.slice Ao9 t104.length co9, .slice none 0 0]) ?_ 1 _ rfl; (with_reducible repeat (first | refine blk_drewN ?_ _ | refine blk_drew ?_ | refine blk_alloc ?_ _)); refine blk_put (cs := #[.slice none 0 0, .slice none 0 0]) ?_ 0 _ rfl; (with_reducible repeat (first | refine blk_drewN ?_ _ | refine blk_drew ?_ | refine blk_alloc ?_ _)); exact BK116.out⟩, ⟨by (with_reducible repeat (first | refine blk_drewN ?_ _ | refine blk_drew ?_ | refine blk_alloc ?_ _)); refine blk_put (cs := #[.slice Ao13 t110.length co13, .slice none 0 0]) ?_ 1 _ rfl; (with_reducible repeat (first | refine blk_drewN ?_ _ | refine blk_drew ?_ | refine blk_alloc ?_ _)); refine blk_put (cs := #[.slice none 0 0, .slice none 0 0]) ?_ 0 _ rfl; (with_reducible repeat (first | refine blk_drewN ?_ _ | refine blk_drew ?_ | refine blk_alloc ?_ _)); refine blk_far ?_ NB117_116.out _; (with_reducible repeat (first | refine blk_drewN ?_ _ | refine blk_drew ?_ | refine blk_alloc ?_ _)); refine blk_far ?_ NB117_116.out _; (with_reducible repeat (first | refine blk_drewN ?_ _ | refine blk_drew ?_ | refine blk_alloc ?_ _)); exact BK117.out⟩, ⟨by repeat (first | (with_reducible first | exact HB.out | apply below_alloc | apply pw_below_drewN | apply below_drew1 | refine below_set ?_ GE116.out | refine below_set ?_ GE117.out) | exact HB.out)⟩⟩
  case round =>
    clear H'
    try clear c1
    try clear p2
    try clear c3
    try clear c10
    try clear c13
    try clear c14
    try clear hcz11_0
    try clear hcz11_1
    try clear hcz14_0
    try clear hcz14_1
    try clear hfz11_0
    try clear hfz11_1
    try clear hfz14_0
    try clear hfz14_1
    obtain ⟨x5_1, x6_1, rfl, rfl, HA, HK1, HO_117000, HO_117001, HO_118000, HO_118001, BK116, BK117, HB⟩ := hrel
    cases gk with
    | zero => exact absurd HA.out (by simp [imprimaturlaw06_ShapeCounts.l0])
    | succ k1 =>
      have H := HA.out
      clear HA
      simp only [imprimaturlaw06_ShapeCounts.l0] at H
      obtain ⟨ji16, hji16⟩ : ∃ j_ : Int, (IntKind.u64.wrap ((t104.length : Int))) = j_ := ⟨_, rfl⟩
      replace H : (if 0 ≤ (ji16) then (if x6_1 < (shl .u32 1 (ji16)) then ((shape_Proper.f k1 t104 t107 x6_1).bind fun t118 => (if t118 = true then (imprimaturlaw06_ShapeCounts.l0 k1 (wrap64 (x5_1 + 1)) ((x6_1 + 1) % 4294967296) t104 t107) else (imprimaturlaw06_ShapeCounts.l0 k1 x5_1 ((x6_1 + 1) % 4294967296) t104 t107))) else ((imprimaturlaw06_ways.f k1 t104 t107 (-1)).bind fun t119 => (if x5_1 = t119 then ((imprimaturlaw06_wakes.f k1).bind fun t120 => (some t120)) else (some false)))) else (none)) = some r := by first | (rw [hji16] at H; exact H) | (simp only [hji16] at H ⊢; exact H)
      by_cases c17 : 0 ≤ (ji16)
      · rw [if_pos c17] at H
        have c17b0 := eq_true c17
        have c17b1 : decide (0 ≤ (ji16)) = true := decide_eq_true c17
        clear c17
        obtain ⟨ji18, hji18⟩ : ∃ j_ : Int, (shl .u32 1 (ji16)) = j_ := ⟨_, rfl⟩
        replace H : (if x6_1 < (ji18) then ((shape_Proper.f k1 t104 t107 x6_1).bind fun t118 => (if t118 = true then (imprimaturlaw06_ShapeCounts.l0 k1 (wrap64 (x5_1 + 1)) ((x6_1 + 1) % 4294967296) t104 t107) else (imprimaturlaw06_ShapeCounts.l0 k1 x5_1 ((x6_1 + 1) % 4294967296) t104 t107))) else ((imprimaturlaw06_ways.f k1 t104 t107 (-1)).bind fun t119 => (if x5_1 = t119 then ((imprimaturlaw06_wakes.f k1).bind fun t120 => (some t120)) else (some false)))) = some r := by first | (rw [hji18] at H; exact H) | (simp only [hji18] at H ⊢; exact H)
        have hji18_ : (IntKind.u32.wrap (1 * 2 ^ min (ji16).toNat 32)) = ji18 := hji18
        have hji18z : (ji16) ≤ 32 → (IntKind.u32.wrap (1 * 2 ^ (ji16).toNat)) = ji18 := shl_small hji18
        have hji18u : (IntKind.u32.wrap (2 ^ min (ji16).toNat 32)) = ji18 := by have h_ := hji18_; rw [Int.one_mul] at h_; exact h_
        have hji18v : (ji16) ≤ 32 → (IntKind.u32.wrap (2 ^ (ji16).toNat)) = ji18 := fun hle_ => by have h_ := hji18z hle_; rw [Int.one_mul] at h_; exact h_
        by_cases c19 : x6_1 < (ji18)
        · rw [if_pos c19] at H
          have c19b0 : decide (x6_1 < (ji18)) = true := decide_eq_true c19
          clear c19
          replace H := Option.bind_eq_some_iff.mp H
          obtain ⟨t118, A200, H⟩ := H
          replace H : (if t118 = true then (imprimaturlaw06_ShapeCounts.l0 k1 (wrap64 (x5_1 + 1)) ((x6_1 + 1) % 4294967296) t104 t107) else (imprimaturlaw06_ShapeCounts.l0 k1 x5_1 ((x6_1 + 1) % 4294967296) t104 t107)) = some r := H
          have A20 := Aside0.mk A200
          clear A200
          by_cases c21 : t118 = true
          · subst c21
            have H1 : (imprimaturlaw06_ShapeCounts.l0 k1 (wrap64 (x5_1 + 1)) ((x6_1 + 1) % 4294967296) t104 t107) = some r := by rw [if_pos rfl] at H; exact H
            clear H
            have H := H1
            clear H1
            have H' := Aside0.mk H
            clear H
            have hnb22 := NB116_117.out
            have hnc22 := NB117_116.out
            have hcz23_0 : wr.cell? ⟨gb116, 0, none⟩ = some (.slice Ao9 t104.length co9) := (blk_cell BK116.out 0).trans rfl
            have hcz23_1 : wr.cell? ⟨gb116, 1, none⟩ = some (.slice Ao12 t107.length co12) := (blk_cell BK116.out 1).trans rfl
            have hfz23_0 := blk_frozen BK116.out 0
            have hfz23_1 := blk_frozen BK116.out 1
            go_wp2_with (first | ((with_reducible refine gate_callee (f := 15) rfl ?_); refine goesL_ (some 24) rfl rfl Try.func15 (by kernel_rfl) rfl #[.agg #[.slice Ao9 t104.length co9, .slice Ao12 t107.length co12], .int .u32 x6_1] rfl (by (try simp only [List.map_toArray, List.map_cons, List.map_nil]); first | done | rfl | (simp only [List.length_drop, List.length_take]; rfl)) ?_; (with_reducible refine (shape_Proper.calls k1 _ _ t104 _ _ t107 x6_1 true _ ?side1 ?side2 ?side3 ?side4 A20.out).mono ?_); (case side1 => repeat (first | exact (Kd.R_reads' HO_117000.out).2.2 | (with_reducible refine Kd.C_alloc ?_ _) | (with_reducible refine Kd.C_drewN ?_ _) | (with_reducible refine Kd.C_drew ?_))); (case side2 => exact (Kd.R_reads' HO_117000.out).2.1); (case side3 => repeat (first | exact (Kd.R_reads' HO_117001.out).2.2 | (with_reducible refine Kd.C_alloc ?_ _) | (with_reducible refine Kd.C_drewN ?_ _) | (with_reducible refine Kd.C_drew ?_))); (case side4 => exact (Kd.R_reads' HO_117001.out).2.1); rintro e w24 ⟨rfl, hb⟩; refine ⟨_, rfl, ?_⟩; have n0_ := Aside0.mk (Kd.R_below (by (with_reducible repeat (first | apply Kd.R_alloc | apply Kd.R_drewN | apply Kd.R_drew)); exact HO_117000.out) hb); have n1_ := Aside0.mk (Kd.R_below (by (with_reducible repeat (first | apply Kd.R_alloc | apply Kd.R_drewN | apply Kd.R_drew)); exact HO_117001.out) hb); have n2_ := Aside0.mk (Kd.R_below (by (with_reducible repeat (first | apply Kd.R_alloc | apply Kd.R_drewN | apply Kd.R_drew)); exact HO_118000.out) hb); have n3_ := Aside0.mk (Kd.R_below (by (with_reducible repeat (first | apply Kd.R_alloc | apply Kd.R_drewN | apply Kd.R_drew)); exact HO_118001.out) hb); have n4_ := Aside0.mk (blk_below (g := gb116) (o := .cells #[.slice Ao9 t104.length co9, .slice Ao12 t107.length co12] 24 (0, 0)) (by (with_reducible repeat (first | refine blk_drewN ?_ _ | refine blk_drew ?_ | refine blk_alloc ?_ _)); exact BK116.out) hb); have n5_ := Aside0.mk (blk_below (g := gb117) (o := .cells #[.slice Ao13 t110.length co13, .slice Ao15 t113.length co15] 25 (0, 0)) (by (with_reducible repeat (first | refine blk_drewN ?_ _ | refine blk_drew ?_ | refine blk_alloc ?_ _)); exact BK117.out) hb); have n6_ := Aside0.mk (below_step (by repeat (first | (with_reducible first | exact HB.out | apply below_alloc | apply pw_below_drewN | apply below_drew1 | refine below_set ?_ GE116.out | refine below_set ?_ GE117.out) | exact HB.out)) hb); clear HO_117000; clear HO_117001; clear HO_118000; clear HO_118001; clear BK116; clear BK117; clear HB; have HO_117000 := n0_; have HO_117001 := n1_; have HO_118000 := n2_; have HO_118001 := n3_; have BK116 := n4_; have BK117 := n5_; have HB := n6_; clear n0_ n1_ n2_ n3_ n4_ n5_ n6_; (try clear hb); (try clear hb2); (try clear hk); (try clear hi)))
            go_roundg k1
            case measure => have := HK1.out; omega
            case rel => exact ⟨(wrap64 (x5_1 + 1)), ((x6_1 + 1) % 4294967296), (by first | rfl | (simp; done) | (simp [*]; done)), (by first | rfl | (simp; done) | (simp [*]; done)), (by first | exact H' | exact ⟨by simp only [hji16, hji18]; exact H'.out⟩), ⟨by have := HK1.out; omega⟩, ⟨by (with_reducible repeat (first | apply Kd.R_alloc | apply Kd.R_drewN | apply Kd.R_drew)); exact HO_117000.out⟩, ⟨by (with_reducible repeat (first | apply Kd.R_alloc | apply Kd.R_drewN | apply Kd.R_drew)); exact HO_117001.out⟩, ⟨by (with_reducible repeat (first | apply Kd.R_alloc | apply Kd.R_drewN | apply Kd.R_drew)); exact HO_118000.out⟩, ⟨by (with_reducible repeat (first | apply Kd.R_alloc | apply Kd.R_drewN | apply Kd.R_drew)); exact HO_118001.out⟩, ⟨by (with_reducible repeat (first | refine blk_drewN ?_ _ | refine blk_drew ?_ | refine blk_alloc ?_ _)); exact BK116.out⟩, ⟨by (with_reducible repeat (first | refine blk_drewN ?_ _ | refine blk_drew ?_ | refine blk_alloc ?_ _)); exact BK117.out⟩, ⟨by repeat (first | (with_reducible first | exact HB.out | apply below_alloc | apply pw_below_drewN | apply below_drew1 | refine below_set ?_ GE116.out | refine below_set ?_ GE117.out) | exact HB.out)⟩⟩
          · replace c21 := Bool.eq_false_iff.mpr c21
            subst c21
            have H1 : (imprimaturlaw06_ShapeCounts.l0 k1 x5_1 ((x6_1 + 1) % 4294967296) t104 t107) = some r := by rw [if_neg (show ¬ (false = true) by decide)] at H; exact H
            clear H
            have H := H1
            clear H1
            have H' := Aside0.mk H
            clear H
            have hnb25 := NB116_117.out
            have hnc25 := NB117_116.out
            have hcz26_0 : wr.cell? ⟨gb116, 0, none⟩ = some (.slice Ao9 t104.length co9) := (blk_cell BK116.out 0).trans rfl
            have hcz26_1 : wr.cell? ⟨gb116, 1, none⟩ = some (.slice Ao12 t107.length co12) := (blk_cell BK116.out 1).trans rfl
            have hfz26_0 := blk_frozen BK116.out 0
            have hfz26_1 := blk_frozen BK116.out 1
            go_wp2_with (first | ((with_reducible refine gate_callee (f := 15) rfl ?_); refine goesL_ (some 24) rfl rfl Try.func15 (by kernel_rfl) rfl #[.agg #[.slice Ao9 t104.length co9, .slice Ao12 t107.length co12], .int .u32 x6_1] rfl (by (try simp only [List.map_toArray, List.map_cons, List.map_nil]); first | done | rfl | (simp only [List.length_drop, List.length_take]; rfl)) ?_; (with_reducible refine (shape_Proper.calls k1 _ _ t104 _ _ t107 x6_1 false _ ?side1 ?side2 ?side3 ?side4 A20.out).mono ?_); (case side1 => repeat (first | exact (Kd.R_reads' HO_117000.out).2.2 | (with_reducible refine Kd.C_alloc ?_ _) | (with_reducible refine Kd.C_drewN ?_ _) | (with_reducible refine Kd.C_drew ?_))); (case side2 => exact (Kd.R_reads' HO_117000.out).2.1); (case side3 => repeat (first | exact (Kd.R_reads' HO_117001.out).2.2 | (with_reducible refine Kd.C_alloc ?_ _) | (with_reducible refine Kd.C_drewN ?_ _) | (with_reducible refine Kd.C_drew ?_))); (case side4 => exact (Kd.R_reads' HO_117001.out).2.1); rintro e w27 ⟨rfl, hb⟩; refine ⟨_, rfl, ?_⟩; have n0_ := Aside0.mk (Kd.R_below (by (with_reducible repeat (first | apply Kd.R_alloc | apply Kd.R_drewN | apply Kd.R_drew)); exact HO_117000.out) hb); have n1_ := Aside0.mk (Kd.R_below (by (with_reducible repeat (first | apply Kd.R_alloc | apply Kd.R_drewN | apply Kd.R_drew)); exact HO_117001.out) hb); have n2_ := Aside0.mk (Kd.R_below (by (with_reducible repeat (first | apply Kd.R_alloc | apply Kd.R_drewN | apply Kd.R_drew)); exact HO_118000.out) hb); have n3_ := Aside0.mk (Kd.R_below (by (with_reducible repeat (first | apply Kd.R_alloc | apply Kd.R_drewN | apply Kd.R_drew)); exact HO_118001.out) hb); have n4_ := Aside0.mk (blk_below (g := gb116) (o := .cells #[.slice Ao9 t104.length co9, .slice Ao12 t107.length co12] 24 (0, 0)) (by (with_reducible repeat (first | refine blk_drewN ?_ _ | refine blk_drew ?_ | refine blk_alloc ?_ _)); exact BK116.out) hb); have n5_ := Aside0.mk (blk_below (g := gb117) (o := .cells #[.slice Ao13 t110.length co13, .slice Ao15 t113.length co15] 25 (0, 0)) (by (with_reducible repeat (first | refine blk_drewN ?_ _ | refine blk_drew ?_ | refine blk_alloc ?_ _)); exact BK117.out) hb); have n6_ := Aside0.mk (below_step (by repeat (first | (with_reducible first | exact HB.out | apply below_alloc | apply pw_below_drewN | apply below_drew1 | refine below_set ?_ GE116.out | refine below_set ?_ GE117.out) | exact HB.out)) hb); clear HO_117000; clear HO_117001; clear HO_118000; clear HO_118001; clear BK116; clear BK117; clear HB; have HO_117000 := n0_; have HO_117001 := n1_; have HO_118000 := n2_; have HO_118001 := n3_; have BK116 := n4_; have BK117 := n5_; have HB := n6_; clear n0_ n1_ n2_ n3_ n4_ n5_ n6_; (try clear hb); (try clear hb2); (try clear hk); (try clear hi)))
            go_roundg k1
            case measure => have := HK1.out; omega
            case rel => exact ⟨(x5_1), ((x6_1 + 1) % 4294967296), (by first | rfl | (simp; done) | (simp [*]; done)), (by first | rfl | (simp; done) | (simp [*]; done)), (by first | exact H' | exact ⟨by simp only [hji16, hji18]; exact H'.out⟩), ⟨by have := HK1.out; omega⟩, ⟨by (with_reducible repeat (first | apply Kd.R_alloc | apply Kd.R_drewN | apply Kd.R_drew)); exact HO_117000.out⟩, ⟨by (with_reducible repeat (first | apply Kd.R_alloc | apply Kd.R_drewN | apply Kd.R_drew)); exact HO_117001.out⟩, ⟨by (with_reducible repeat (first | apply Kd.R_alloc | apply Kd.R_drewN | apply Kd.R_drew)); exact HO_118000.out⟩, ⟨by (with_reducible repeat (first | apply Kd.R_alloc | apply Kd.R_drewN | apply Kd.R_drew)); exact HO_118001.out⟩, ⟨by (with_reducible repeat (first | refine blk_drewN ?_ _ | refine blk_drew ?_ | refine blk_alloc ?_ _)); exact BK116.out⟩, ⟨by (with_reducible repeat (first | refine blk_drewN ?_ _ | refine blk_drew ?_ | refine blk_alloc ?_ _)); exact BK117.out⟩, ⟨by repeat (first | (with_reducible first | exact HB.out | apply below_alloc | apply pw_below_drewN | apply below_drew1 | refine below_set ?_ GE116.out | refine below_set ?_ GE117.out) | exact HB.out)⟩⟩
        · rw [if_neg c19] at H
          have c19b0 : decide (x6_1 < (ji18)) = false := decide_eq_false c19
          clear c19
          replace H := Option.bind_eq_some_iff.mp H
          obtain ⟨t119, A280, H⟩ := H
          replace H : (if x5_1 = t119 then ((imprimaturlaw06_wakes.f k1).bind fun t120 => (some t120)) else (some false)) = some r := H
          have A28 := Aside0.mk A280
          clear A280
          by_cases c29 : x5_1 = t119
          · rw [if_pos c29] at H
            have c29b0 : (x5_1 == t119) = true := beq_iff_eq.mpr c29
            have c29b1 : (x5_1 != t119) = false := bne_eq_false_iff_eq.mpr c29
            clear c29
            replace H := Option.bind_eq_some_iff.mp H
            obtain ⟨t120, A300, H⟩ := H
            replace H : (some t120) = some r := H
            have A30 := Aside0.mk A300
            clear A300
            obtain rfl := Option.some.inj H
            have hnb31 := NB116_117.out
            have hnc31 := NB117_116.out
            have hcz32_0 : wr.cell? ⟨gb116, 0, none⟩ = some (.slice Ao9 t104.length co9) := (blk_cell BK116.out 0).trans rfl
            have hcz32_1 : wr.cell? ⟨gb116, 1, none⟩ = some (.slice Ao12 t107.length co12) := (blk_cell BK116.out 1).trans rfl
            have hfz32_0 := blk_frozen BK116.out 0
            have hfz32_1 := blk_frozen BK116.out 1
            go_wp2_with (first | ((with_reducible refine gate_callee (f := 16) rfl ?_); refine goesL_ (some 29) rfl rfl Try.func16 (by kernel_rfl) rfl #[.agg #[.slice Ao9 t104.length co9, .slice Ao12 t107.length co12], .int .i64 (-1)] rfl (by (try simp only [List.map_toArray, List.map_cons, List.map_nil]); first | done | rfl | (simp only [List.length_drop, List.length_take]; rfl)) ?_; (with_reducible refine (imprimaturlaw06_ways.calls k1 _ _ t104 _ _ t107 (-1) t119 _ ?side1 ?side2 ?side3 ?side4 A28.out).mono ?_); (case side1 => repeat (first | exact (Kd.R_reads' HO_117000.out).2.2 | (with_reducible refine Kd.C_alloc ?_ _) | (with_reducible refine Kd.C_drewN ?_ _) | (with_reducible refine Kd.C_drew ?_))); (case side2 => exact (Kd.R_reads' HO_117000.out).2.1); (case side3 => repeat (first | exact (Kd.R_reads' HO_117001.out).2.2 | (with_reducible refine Kd.C_alloc ?_ _) | (with_reducible refine Kd.C_drewN ?_ _) | (with_reducible refine Kd.C_drew ?_))); (case side4 => exact (Kd.R_reads' HO_117001.out).2.1); rintro e w33 ⟨rfl, hb⟩; refine ⟨_, rfl, ?_⟩; have n0_ := Aside0.mk (Kd.R_below (by (with_reducible repeat (first | apply Kd.R_alloc | apply Kd.R_drewN | apply Kd.R_drew)); exact HO_117000.out) hb); have n1_ := Aside0.mk (Kd.R_below (by (with_reducible repeat (first | apply Kd.R_alloc | apply Kd.R_drewN | apply Kd.R_drew)); exact HO_117001.out) hb); have n2_ := Aside0.mk (Kd.R_below (by (with_reducible repeat (first | apply Kd.R_alloc | apply Kd.R_drewN | apply Kd.R_drew)); exact HO_118000.out) hb); have n3_ := Aside0.mk (Kd.R_below (by (with_reducible repeat (first | apply Kd.R_alloc | apply Kd.R_drewN | apply Kd.R_drew)); exact HO_118001.out) hb); have n4_ := Aside0.mk (blk_below (g := gb116) (o := .cells #[.slice Ao9 t104.length co9, .slice Ao12 t107.length co12] 24 (0, 0)) (by (with_reducible repeat (first | refine blk_drewN ?_ _ | refine blk_drew ?_ | refine blk_alloc ?_ _)); exact BK116.out) hb); have n5_ := Aside0.mk (blk_below (g := gb117) (o := .cells #[.slice Ao13 t110.length co13, .slice Ao15 t113.length co15] 25 (0, 0)) (by (with_reducible repeat (first | refine blk_drewN ?_ _ | refine blk_drew ?_ | refine blk_alloc ?_ _)); exact BK117.out) hb); have n6_ := Aside0.mk (below_step (by repeat (first | (with_reducible first | exact HB.out | apply below_alloc | apply pw_below_drewN | apply below_drew1 | refine below_set ?_ GE116.out | refine below_set ?_ GE117.out) | exact HB.out)) hb); clear HO_117000; clear HO_117001; clear HO_118000; clear HO_118001; clear BK116; clear BK117; clear HB; have HO_117000 := n0_; have HO_117001 := n1_; have HO_118000 := n2_; have HO_118001 := n3_; have BK116 := n4_; have BK117 := n5_; have HB := n6_; clear n0_ n1_ n2_ n3_ n4_ n5_ n6_; (try clear hb); (try clear hb2); (try clear hk); (try clear hi)) | (go_at_call 17; (with_reducible refine (imprimaturlaw06_wakes.calls k1  t120 _ A30.out).mono ?_); rintro e w34 ⟨rfl, hb⟩; have n0_ := Aside0.mk (Kd.R_below (by (with_reducible repeat (first | apply Kd.R_alloc | apply Kd.R_drewN | apply Kd.R_drew)); exact HO_117000.out) hb); have n1_ := Aside0.mk (Kd.R_below (by (with_reducible repeat (first | apply Kd.R_alloc | apply Kd.R_drewN | apply Kd.R_drew)); exact HO_117001.out) hb); have n2_ := Aside0.mk (Kd.R_below (by (with_reducible repeat (first | apply Kd.R_alloc | apply Kd.R_drewN | apply Kd.R_drew)); exact HO_118000.out) hb); have n3_ := Aside0.mk (Kd.R_below (by (with_reducible repeat (first | apply Kd.R_alloc | apply Kd.R_drewN | apply Kd.R_drew)); exact HO_118001.out) hb); have n4_ := Aside0.mk (blk_below (g := gb116) (o := .cells #[.slice Ao9 t104.length co9, .slice Ao12 t107.length co12] 24 (0, 0)) (by (with_reducible repeat (first | refine blk_drewN ?_ _ | refine blk_drew ?_ | refine blk_alloc ?_ _)); exact BK116.out) hb); have n5_ := Aside0.mk (blk_below (g := gb117) (o := .cells #[.slice Ao13 t110.length co13, .slice Ao15 t113.length co15] 25 (0, 0)) (by (with_reducible repeat (first | refine blk_drewN ?_ _ | refine blk_drew ?_ | refine blk_alloc ?_ _)); exact BK117.out) hb); have n6_ := Aside0.mk (below_step (by repeat (first | (with_reducible first | exact HB.out | apply below_alloc | apply pw_below_drewN | apply below_drew1 | refine below_set ?_ GE116.out | refine below_set ?_ GE117.out) | exact HB.out)) hb); clear HO_117000; clear HO_117001; clear HO_118000; clear HO_118001; clear BK116; clear BK117; clear HB; have HO_117000 := n0_; have HO_117001 := n1_; have HO_118000 := n2_; have HO_118001 := n3_; have BK116 := n4_; have BK117 := n5_; have HB := n6_; clear n0_ n1_ n2_ n3_ n4_ n5_ n6_; (try clear hb); (try clear hb2); (try clear hk); (try clear hi)))
            go_ret
            exact ⟨by first | rfl | (simp [errW_none, errW_some] <;> rfl) | (simp only [← hji16, ← hji18]; first | rfl | (simp [errW_none, errW_some] <;> rfl)) | (simp [*, errW_none, errW_some] <;> rfl), by repeat (first | (with_reducible first | exact HB.out | apply below_alloc | apply pw_below_drewN | apply below_drew1 | refine below_set ?_ GE116.out | refine below_set ?_ GE117.out) | exact HB.out)⟩
          · rw [if_neg c29] at H
            have c29b0 : (x5_1 == t119) = false := beq_eq_false_iff_ne.mpr c29
            have c29b1 : (x5_1 != t119) = true := bne_iff_ne.mpr c29
            obtain rfl := Option.some.inj H
            have hnb35 := NB116_117.out
            have hnc35 := NB117_116.out
            have hcz36_0 : wr.cell? ⟨gb116, 0, none⟩ = some (.slice Ao9 t104.length co9) := (blk_cell BK116.out 0).trans rfl
            have hcz36_1 : wr.cell? ⟨gb116, 1, none⟩ = some (.slice Ao12 t107.length co12) := (blk_cell BK116.out 1).trans rfl
            have hfz36_0 := blk_frozen BK116.out 0
            have hfz36_1 := blk_frozen BK116.out 1
            go_wp2_with (first | ((with_reducible refine gate_callee (f := 16) rfl ?_); refine goesL_ (some 29) rfl rfl Try.func16 (by kernel_rfl) rfl #[.agg #[.slice Ao9 t104.length co9, .slice Ao12 t107.length co12], .int .i64 (-1)] rfl (by (try simp only [List.map_toArray, List.map_cons, List.map_nil]); first | done | rfl | (simp only [List.length_drop, List.length_take]; rfl)) ?_; (with_reducible refine (imprimaturlaw06_ways.calls k1 _ _ t104 _ _ t107 (-1) t119 _ ?side1 ?side2 ?side3 ?side4 A28.out).mono ?_); (case side1 => repeat (first | exact (Kd.R_reads' HO_117000.out).2.2 | (with_reducible refine Kd.C_alloc ?_ _) | (with_reducible refine Kd.C_drewN ?_ _) | (with_reducible refine Kd.C_drew ?_))); (case side2 => exact (Kd.R_reads' HO_117000.out).2.1); (case side3 => repeat (first | exact (Kd.R_reads' HO_117001.out).2.2 | (with_reducible refine Kd.C_alloc ?_ _) | (with_reducible refine Kd.C_drewN ?_ _) | (with_reducible refine Kd.C_drew ?_))); (case side4 => exact (Kd.R_reads' HO_117001.out).2.1); rintro e w37 ⟨rfl, hb⟩; refine ⟨_, rfl, ?_⟩; have n0_ := Aside0.mk (Kd.R_below (by (with_reducible repeat (first | apply Kd.R_alloc | apply Kd.R_drewN | apply Kd.R_drew)); exact HO_117000.out) hb); have n1_ := Aside0.mk (Kd.R_below (by (with_reducible repeat (first | apply Kd.R_alloc | apply Kd.R_drewN | apply Kd.R_drew)); exact HO_117001.out) hb); have n2_ := Aside0.mk (Kd.R_below (by (with_reducible repeat (first | apply Kd.R_alloc | apply Kd.R_drewN | apply Kd.R_drew)); exact HO_118000.out) hb); have n3_ := Aside0.mk (Kd.R_below (by (with_reducible repeat (first | apply Kd.R_alloc | apply Kd.R_drewN | apply Kd.R_drew)); exact HO_118001.out) hb); have n4_ := Aside0.mk (blk_below (g := gb116) (o := .cells #[.slice Ao9 t104.length co9, .slice Ao12 t107.length co12] 24 (0, 0)) (by (with_reducible repeat (first | refine blk_drewN ?_ _ | refine blk_drew ?_ | refine blk_alloc ?_ _)); exact BK116.out) hb); have n5_ := Aside0.mk (blk_below (g := gb117) (o := .cells #[.slice Ao13 t110.length co13, .slice Ao15 t113.length co15] 25 (0, 0)) (by (with_reducible repeat (first | refine blk_drewN ?_ _ | refine blk_drew ?_ | refine blk_alloc ?_ _)); exact BK117.out) hb); have n6_ := Aside0.mk (below_step (by repeat (first | (with_reducible first | exact HB.out | apply below_alloc | apply pw_below_drewN | apply below_drew1 | refine below_set ?_ GE116.out | refine below_set ?_ GE117.out) | exact HB.out)) hb); clear HO_117000; clear HO_117001; clear HO_118000; clear HO_118001; clear BK116; clear BK117; clear HB; have HO_117000 := n0_; have HO_117001 := n1_; have HO_118000 := n2_; have HO_118001 := n3_; have BK116 := n4_; have BK117 := n5_; have HB := n6_; clear n0_ n1_ n2_ n3_ n4_ n5_ n6_; (try clear hb); (try clear hb2); (try clear hk); (try clear hi)))
            go_ret
            exact ⟨by first | rfl | (simp [errW_none, errW_some] <;> rfl) | (simp only [← hji16, ← hji18]; first | rfl | (simp [errW_none, errW_some] <;> rfl)) | (simp [*, errW_none, errW_some] <;> rfl), by repeat (first | (with_reducible first | exact HB.out | apply below_alloc | apply pw_below_drewN | apply below_drew1 | refine below_set ?_ GE116.out | refine below_set ?_ GE117.out) | exact HB.out)⟩
      · rw [if_neg c17] at H
        exact absurd H (by simp)

/-- THE ONE PURE STATEMENT of imprimaturlaw06_ShapeCounts: yours. -/
def imprimaturlaw06_ShapeCounts.Pure : Prop := ∀ (l0 : List Int), l0.length ≤ maxLen → l0.length * 8 ≤ 140737488351232 → (∀ x ∈ l0, (Lit.int .i64 x).wf = true) → ∃ k, imprimaturlaw06_ShapeCounts.f k l0 = some true
theorem imprimaturlaw06_ShapeCounts.walk (P : imprimaturlaw06_ShapeCounts.Pure) (a0 : Option Addr) (len0 cap0 : Nat) (z0 : List Int) (w : World) (w0 : (a0 = none ∧ len0 = 0 ∧ cap0 = 0 ∧ z0 = []) ∨ ∃ x, a0 = some x ∧ len0 ≤ cap0 ∧ cap0 ≤ maxLen ∧ z0.length = cap0 ∧ (∀ i, i < z0.length → w.cell? (x.add i) = some (.int .i64 (z0.getD i 0))) ∧ ∀ n ∈ z0, (Lit.int .i64 n).wf = true) (y0 : len0 * 8 ≤ 140737488351232) :
    Calls Try.prog 3 #[.slice a0 len0 cap0] w fun e w' => e = .returned (.bool true) ∧ Below w.heap.size w w' := by
  obtain ⟨l0, rfl, hr0, hm0, hw0, hc0⟩ := ReadsInt.ofRowC w0
  obtain ⟨k, h⟩ := P l0 hm0 y0 hw0
  refine (imprimaturlaw06_ShapeCounts.calls k _ _ l0 true w (Kd.C_of_reads (d := (0 : Int)) (h1 := fun _ => rfl) hr0) hc0 h).mono ?_
  rintro e w' ⟨rfl, hd⟩
  exact ⟨rfl, hd⟩

end Go.Proofs.Ytnomeokicfpidaa.Q
