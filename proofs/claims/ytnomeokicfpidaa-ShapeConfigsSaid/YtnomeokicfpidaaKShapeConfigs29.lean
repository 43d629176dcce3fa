-- merged by pack.py out of: YtnomeokicfpidaaQx15 YtnomeokicfpidaaQx16
import Derived.Test.YtnomeokicfpidaaKShapeConfigs24
import Derived.Test.YtnomeokicfpidaaKShapeConfigs25
import Derived.Test.YtnomeokicfpidaaKShapeConfigs27
import Derived.Test.YtnomeokicfpidaaKShapeConfigs28
import Derived.Test.YtnomeokicfpidaaKShapeConfigs26
-- printed by myprint.py: a program of this repo over the kit's print
namespace Go.Proofs.Ytnomeokicfpidaa.Q
open Go.RowKit Go.Proofs.YtnomeokicfpidaaW.PrintWords Go.Proofs.YtnomeokicfpidaaW.PrintLast Go.Proofs.YtnomeokicfpidaaW.PrintMore
attribute [local go_sem] max2_int min2_int max_two min_two max_three min_three max_four min_four   -- for this text's walks alone
set_option linter.unusedVariables false
set_option linter.unusedSimpArgs false

/-! ### imprimaturlaw06_ShapeConfigs: function 4 -/
def imprimaturlaw06_ShapeConfigs.j0 : Nat → Int → Int → Bool → List Int → List Int → Option (Bool)
  | 0, _, _, _, _, _ => none
  | k + 1, x2, x9, x32, x114000, x114001 => if x32 = true then (some false) else ((imprimaturkeep_Within.f x2 (x114000.length : Int)).bind fun t119 => (if 0 ≤ (IntKind.u64.wrap (t119)) then ((shape_Proper.f k x114000 x114001 (Go.bits .xor .u32 x9 (shl .u32 1 (IntKind.u64.wrap (t119))))).bind fun t120 => (if t120 = true then (some false) else ((imprimaturlaw06_wakes.f k).bind fun t121 => (some t121)))) else (none)))
def imprimaturlaw06_ShapeConfigs.f (k : Nat) (l0 : List Int) (l1 : List Int) (a2 : Int) : Option (Bool) := (imprimaturlaw06_Of.f k l0).bind fun bt101 => ((imprimaturlaw06_Config.f k bt101.2.2.1 bt101.2.2.2 l1).bind fun t115 => ((shape_Proper.f k bt101.1 bt101.2.1 t115).bind fun t116 => (if t116 = true then ((shape_Proper.f k bt101.1 bt101.2.1 0).bind fun t117 => (if t117 = true then (imprimaturlaw06_ShapeConfigs.j0 k a2 t115 true bt101.1 bt101.2.1) else ((shape_Proper.f k bt101.1 bt101.2.1 (Go.bits .or .u32 t115 2147483648)).bind fun t118 => (imprimaturlaw06_ShapeConfigs.j0 k a2 t115 t118 bt101.1 bt101.2.1)))) else (imprimaturlaw06_ShapeConfigs.j0 k a2 t115 true bt101.1 bt101.2.1))))
theorem imprimaturlaw06_ShapeConfigs.mono_l : ∀ k, (∀ y0 y1 y2 y3 y4, LeO (imprimaturlaw06_ShapeConfigs.j0 k y0 y1 y2 y3 y4) (imprimaturlaw06_ShapeConfigs.j0 (k + 1) y0 y1 y2 y3 y4))
  | 0 => fun _ _ _ _ _ r h => by simp [imprimaturlaw06_ShapeConfigs.j0] at h
  | k + 1 => by
    have ih0 := imprimaturlaw06_ShapeConfigs.mono_l k
    · intro y0 y1 y2 y3 y4
      unfold imprimaturlaw06_ShapeConfigs.j0
      repeat' first
      | (with_reducible exact ih0 _ _ _ _ _)
      | (with_reducible exact imprimaturlaw06_Config.mono _ _ _ _)
      | (with_reducible exact imprimaturlaw06_Of.mono _ _)
      | (with_reducible exact imprimaturlaw06_wakes.mono _)
      | (with_reducible exact shape_Proper.mono _ _ _ _)
      | (with_reducible exact LeO.refl _)
      | (with_reducible exact LeO.none _)
      | (with_reducible refine LeO.ite ?_ ?_)
      | (with_reducible refine LeO.bind ?_ (fun _ => ?_))
      | exact ih0 _ _ _ _ _
      | exact imprimaturlaw06_Config.mono _ _ _ _
      | exact imprimaturlaw06_Of.mono _ _
      | exact imprimaturlaw06_wakes.mono _
      | exact shape_Proper.mono _ _ _ _
      | exact LeO.none _
      | refine LeO.ite ?_ ?_
      | refine LeO.bind ?_ (fun _ => ?_)
theorem imprimaturlaw06_ShapeConfigs.mono : ∀ a0 a1 a2 k, LeO (imprimaturlaw06_ShapeConfigs.f k a0 a1 a2) (imprimaturlaw06_ShapeConfigs.f (k + 1) a0 a1 a2) := by
  intro a0 a1 a2 k
  have ih0 := imprimaturlaw06_ShapeConfigs.mono_l k
  unfold imprimaturlaw06_ShapeConfigs.f
  repeat' first
      | (with_reducible exact ih0 _ _ _ _ _)
      | (with_reducible exact imprimaturlaw06_Config.mono _ _ _ _)
      | (with_reducible exact imprimaturlaw06_Of.mono _ _)
      | (with_reducible exact imprimaturlaw06_wakes.mono _)
      | (with_reducible exact shape_Proper.mono _ _ _ _)
      | (with_reducible exact LeO.refl _)
      | (with_reducible exact LeO.none _)
      | (with_reducible refine LeO.ite ?_ ?_)
      | (with_reducible refine LeO.bind ?_ (fun _ => ?_))
      | exact ih0 _ _ _ _ _
      | exact imprimaturlaw06_Config.mono _ _ _ _
      | exact imprimaturlaw06_Of.mono _ _
      | exact imprimaturlaw06_wakes.mono _
      | exact shape_Proper.mono _ _ _ _
      | exact LeO.none _
      | refine LeO.ite ?_ ?_
      | refine LeO.bind ?_ (fun _ => ?_)
set_option maxHeartbeats 8000000 in
set_option maxRecDepth 100000 in
theorem imprimaturlaw06_ShapeConfigs.calls (k : Nat) (A0 : Option Addr) (c0 : Nat) (l0 : List Int) (A1 : Option Addr) (c1 : Nat) (l1 : List Int) (a2 : Int) (r : Bool) (w : World) (hr0 : Kd.C (Kd.int .i64) w A0 l0.length l0) (hc0 : l0.length ≤ c0) (hr1 : Kd.C (Kd.int .i64) w A1 l1.length l1) (hc1 : l1.length ≤ c1) (h : imprimaturlaw06_ShapeConfigs.f k l0 l1 a2 = some r) :
    Calls Try.prog 4 #[.slice A0 l0.length c0, .slice A1 l1.length c1, .int .i64 a2] w fun e w' => e = .returned (.bool r) ∧ Below w.heap.size w w' := by
  have hu24 := Try.underlying24
  have hu25 := Try.underlying25
  have HR0 := Aside0.mk hr0
  have HC0 := Aside0.mk hc0
  clear hr0 hc0
  have HR1 := Aside0.mk hr1
  have HC1 := Aside0.mk hc1
  clear hr1 hc1
  have HB := Aside0.mk (Below.refl w.heap.size w)
  have H : ((imprimaturlaw06_Of.f k l0).bind fun bt101 => ((imprimaturlaw06_Config.f k bt101.2.2.1 bt101.2.2.2 l1).bind fun t115 => ((shape_Proper.f k bt101.1 bt101.2.1 t115).bind fun t116 => (if t116 = true then ((shape_Proper.f k bt101.1 bt101.2.1 0).bind fun t117 => (if t117 = true then (imprimaturlaw06_ShapeConfigs.j0 k a2 t115 true bt101.1 bt101.2.1) else ((shape_Proper.f k bt101.1 bt101.2.1 (Go.bits .or .u32 t115 2147483648)).bind fun t118 => (imprimaturlaw06_ShapeConfigs.j0 k a2 t115 t118 bt101.1 bt101.2.1)))) else (imprimaturlaw06_ShapeConfigs.j0 k a2 t115 true bt101.1 bt101.2.1))))) = some r := h
  clear h
  replace H := Option.bind_eq_some_iff.mp H
  obtain ⟨⟨t101, t104, t107, t110⟩, A40, H⟩ := H
  replace H : ((imprimaturlaw06_Config.f k t107 t110 l1).bind fun t115 => ((shape_Proper.f k t101 t104 t115).bind fun t116 => (if t116 = true then ((shape_Proper.f k t101 t104 0).bind fun t117 => (if t117 = true then (imprimaturlaw06_ShapeConfigs.j0 k a2 t115 true t101 t104) else ((shape_Proper.f k t101 t104 (Go.bits .or .u32 t115 2147483648)).bind fun t118 => (imprimaturlaw06_ShapeConfigs.j0 k a2 t115 t118 t101 t104)))) else (imprimaturlaw06_ShapeConfigs.j0 k a2 t115 true t101 t104)))) = some r := H
  have A4 := Aside0.mk A40
  clear A40
  replace H := Option.bind_eq_some_iff.mp H
  obtain ⟨t115, A50, H⟩ := H
  replace H : ((shape_Proper.f k t101 t104 t115).bind fun t116 => (if t116 = true then ((shape_Proper.f k t101 t104 0).bind fun t117 => (if t117 = true then (imprimaturlaw06_ShapeConfigs.j0 k a2 t115 true t101 t104) else ((shape_Proper.f k t101 t104 (Go.bits .or .u32 t115 2147483648)).bind fun t118 => (imprimaturlaw06_ShapeConfigs.j0 k a2 t115 t118 t101 t104)))) else (imprimaturlaw06_ShapeConfigs.j0 k a2 t115 true t101 t104))) = some r := H
  have A5 := Aside0.mk A50
  clear A50
  have HC6 := Aside0.mk H
  clear H
  go_enter Try.func4, Try.ntmps4
  go_upto_region 3 with (first | ((with_reducible refine gate_callee (f := 13) rfl ?_); refine goesL_ (some 13) rfl rfl Try.func13 (by kernel_rfl) rfl #[.slice A0 l0.length c0] rfl (by (try simp only [List.map_toArray, List.map_cons, List.map_nil]); first | done | rfl | (simp only [List.length_drop, List.length_take]; rfl)) ?_; (with_reducible refine (imprimaturlaw06_Of.calls k _ _ l0 t101 t104 t107 t110 _ ?side1 ?side2 A4.out).mono ?_); (case side1 => repeat (first | exact HR0.out | (with_reducible refine Kd.C_alloc ?_ _) | (with_reducible refine Kd.C_drewN ?_ _) | (with_reducible refine Kd.C_drew ?_))); (case side2 => exact HC0.out); rintro e w7 ⟨v102, v105, v108, v111, rfl, ho0, ho1, ho2, ho3, hb⟩; refine ⟨_, rfl, ?_⟩; have n0_ := Aside0.mk (Kd.R_lower ho0 (below_size (by repeat (first | (with_reducible first | exact HB.out | apply below_alloc | apply pw_below_drewN | apply below_drew1) | exact HB.out)))); have n1_ := Aside0.mk (Kd.R_lower ho1 (below_size (by repeat (first | (with_reducible first | exact HB.out | apply below_alloc | apply pw_below_drewN | apply below_drew1) | exact HB.out)))); have n2_ := Aside0.mk (Kd.R_lower ho2 (below_size (by repeat (first | (with_reducible first | exact HB.out | apply below_alloc | apply pw_below_drewN | apply below_drew1) | exact HB.out)))); have n3_ := Aside0.mk (Kd.R_lower ho3 (below_size (by repeat (first | (with_reducible first | exact HB.out | apply below_alloc | apply pw_below_drewN | apply below_drew1) | exact HB.out)))); have n4_ := Aside0.mk (below_step (by repeat (first | (with_reducible first | exact HB.out | apply below_alloc | apply pw_below_drewN | apply below_drew1) | exact HB.out)) hb); clear HB; have HO103 := n0_; have HO106 := n1_; have HO109 := n2_; have HO112 := n3_; have HB := n4_; clear n0_ n1_ n2_ n3_ n4_; (try clear hb); (try clear hb2); (try clear hk); (try clear hi); (try clear ho0); (try clear ho1); (try clear ho2); (try clear ho3)) | ((with_reducible refine gate_dst (N := 7) rfl ?_); refine box_event ?hg (N := 7) ?hd (cs := #[.slice none 0 0, .slice none 0 0]) (t := 24) ?hr ?_; (case hd => rfl); (case hg => rfl); (case hr => first | (go_simp; done) | (go_simp; rfl)); intro gb113 hg w8 hbox hb; have n0_ := Aside0.mk (Kd.R_below (by (with_reducible repeat (first | apply Kd.R_alloc | apply Kd.R_drewN | apply Kd.R_drew)); exact HO103.out) hb); have n1_ := Aside0.mk (Kd.R_below (by (with_reducible repeat (first | apply Kd.R_alloc | apply Kd.R_drewN | apply Kd.R_drew)); exact HO106.out) hb); have n2_ := Aside0.mk (Kd.R_below (by (with_reducible repeat (first | apply Kd.R_alloc | apply Kd.R_drewN | apply Kd.R_drew)); exact HO109.out) hb); have n3_ := Aside0.mk (Kd.R_below (by (with_reducible repeat (first | apply Kd.R_alloc | apply Kd.R_drewN | apply Kd.R_drew)); exact HO112.out) hb); have n4_ := Aside0.mk (below_step (by repeat (first | (with_reducible first | exact HB.out | apply below_alloc | apply pw_below_drewN | apply below_drew1) | exact HB.out)) hb); have n5_ := Aside0.mk (hbox); have n6_ := Aside0.mk ((by rw [hg]; exact (below_size (by repeat (first | (with_reducible first | exact HB.out | apply below_alloc | apply pw_below_drewN | apply below_drew1) | exact HB.out))) : w.heap.size ≤ gb113)); have n7_ := Aside0.mk ((by rw [hg]; exact (below_size (by repeat (first | (with_reducible first | exact HB.out | apply below_alloc | apply pw_below_drewN | apply below_drew1) | exact HB.out))) : w.heap.size ≤ gb113)); clear HO103; clear HO106; clear HO109; clear HO112; clear HB; have HO103 := n0_; have HO106 := n1_; have HO109 := n2_; have HO112 := n3_; have HB := n4_; have BK113 := n5_; have GW113 := n6_; have GE113 := n7_; clear n0_ n1_ n2_ n3_ n4_ n5_ n6_ n7_; clear hb hbox hg) | ((with_reducible refine gate_dst (N := 8) rfl ?_); refine box_event ?hg (N := 8) ?hd (cs := #[.slice none 0 0, .slice none 0 0]) (t := 25) ?hr ?_; (case hd => rfl); (case hg => rfl); (case hr => first | (go_simp; done) | (go_simp; rfl)); intro gb114 hg w9 hbox hb; have n0_ := Aside0.mk (Kd.R_below (by (with_reducible repeat (first | apply Kd.R_alloc | apply Kd.R_drewN | apply Kd.R_drew)); exact HO103.out) hb); have n1_ := Aside0.mk (Kd.R_below (by (with_reducible repeat (first | apply Kd.R_alloc | apply Kd.R_drewN | apply Kd.R_drew)); exact HO106.out) hb); have n2_ := Aside0.mk (Kd.R_below (by (with_reducible repeat (first | apply Kd.R_alloc | apply Kd.R_drewN | apply Kd.R_drew)); exact HO109.out) hb); have n3_ := Aside0.mk (Kd.R_below (by (with_reducible repeat (first | apply Kd.R_alloc | apply Kd.R_drewN | apply Kd.R_drew)); exact HO112.out) hb); have n4_ := Aside0.mk (blk_below (g := gb113) (o := .cells #[.slice none 0 0, .slice none 0 0] 24 (0, 0)) (by (with_reducible repeat (first | refine blk_drewN ?_ _ | refine blk_drew ?_ | refine blk_alloc ?_ _)); exact BK113.out) hb); have n5_ := Aside0.mk (below_step (by repeat (first | (with_reducible first | exact HB.out | apply below_alloc | apply pw_below_drewN | apply below_drew1 | refine below_set ?_ GE113.out) | exact HB.out)) hb); have n6_ := Aside0.mk (hbox); have n7_ := Aside0.mk ((by rw [hg]; exact (below_size (by repeat (first | (with_reducible first | exact HB.out | apply below_alloc | apply pw_below_drewN | apply below_drew1 | refine below_set ?_ GE113.out) | exact HB.out))) : w.heap.size ≤ gb114)); have n8_ := Aside0.mk ((by rw [hg]; exact (below_size (by repeat (first | (with_reducible first | exact HB.out | apply below_alloc | apply pw_below_drewN | apply below_drew1 | refine below_set ?_ GE113.out) | exact HB.out))) : w.heap.size ≤ gb114)); have n9_ := Aside0.mk ((by rw [hg]; exact Nat.ne_of_lt (blk_lt (g := gb113) (o := .cells #[.slice none 0 0, .slice none 0 0] 24 (0, 0)) (by (with_reducible repeat (first | refine blk_drewN ?_ _ | refine blk_drew ?_ | refine blk_alloc ?_ _)); exact BK113.out)) : gb113 ≠ gb114)); have n10_ := Aside0.mk ((by rw [hg]; exact Nat.ne_of_gt (blk_lt (g := gb113) (o := .cells #[.slice none 0 0, .slice none 0 0] 24 (0, 0)) (by (with_reducible repeat (first | refine blk_drewN ?_ _ | refine blk_drew ?_ | refine blk_alloc ?_ _)); exact BK113.out)) : gb114 ≠ gb113)); clear HO103; clear HO106; clear HO109; clear HO112; clear BK113; clear HB; have HO103 := n0_; have HO106 := n1_; have HO109 := n2_; have HO112 := n3_; have BK113 := n4_; have HB := n5_; have BK114 := n6_; have GW114 := n7_; have GE114 := n8_; have NB113_114 := n9_; have NB114_113 := n10_; clear n0_ n1_ n2_ n3_ n4_ n5_ n6_ n7_ n8_ n9_ n10_; clear hb hbox hg; obtain ⟨Ao10, co10, eo10⟩ := Kd.R_slice HO103.out; subst eo10; have hnb11 := NB113_114.out; have hnc11 := NB114_113.out; have hcz12_0 : w9.cell? ⟨gb113, 0, none⟩ = some (.slice none 0 0) := (blk_cell BK113.out 0).trans rfl; have hcz12_1 : w9.cell? ⟨gb113, 1, none⟩ = some (.slice none 0 0) := (blk_cell BK113.out 1).trans rfl; have hfz12_0 := blk_frozen BK113.out 0; have hfz12_1 := blk_frozen BK113.out 1; obtain ⟨Ao13, co13, eo13⟩ := Kd.R_slice HO106.out; subst eo13; obtain ⟨Ao14, co14, eo14⟩ := Kd.R_slice HO109.out; subst eo14; have hcz15_0 : w9.cell? ⟨gb114, 0, none⟩ = some (.slice none 0 0) := (blk_cell BK114.out 0).trans rfl; have hcz15_1 : w9.cell? ⟨gb114, 1, none⟩ = some (.slice none 0 0) := (blk_cell BK114.out 1).trans rfl; have hfz15_0 := blk_frozen BK114.out 0; have hfz15_1 := blk_frozen BK114.out 1; obtain ⟨Ao16, co16, eo16⟩ := Kd.R_slice HO112.out; subst eo16) | ((with_reducible refine gate_callee (f := 18) rfl ?_); refine goesL_ (some 18) rfl rfl Try.func18 (by kernel_rfl) rfl #[.agg #[.slice Ao14 t107.length co14, .slice Ao16 t110.length co16], .slice A1 l1.length c1] rfl (by (try simp only [List.map_toArray, List.map_cons, List.map_nil]); first | done | rfl | (simp only [List.length_drop, List.length_take]; rfl)) ?_; (with_reducible refine (imprimaturlaw06_Config.calls k _ _ t107 _ _ t110 _ _ l1 t115 _ ?side1 ?side2 ?side3 ?side4 ?side5 ?side6 A5.out).mono ?_); (case side1 => refine (Kd.R_reads' (e := 3) (base := w.heap.size) (ok := fun k_ => (some k_ ≠ (.slice Ao10 t101.length co10 : Value).ownBlock ∧ (some k_ ≠ (.slice Ao13 t104.length co13 : Value).ownBlock ∧ some k_ ≠ (.slice Ao16 t110.length co16 : Value).ownBlock))) (n := t107.length) (c := co14) ?_).2.2; exact (by (with_reducible repeat (first | apply Kd.R_alloc | apply Kd.R_drewN | apply Kd.R_drew)); exact (Kd.R_mono (Kd.R_mono (Kd.R_far (p := ⟨gb114, 1, none⟩) (Kd.R_far (p := ⟨gb114, 0, none⟩) (Kd.R_far (p := ⟨gb113, 1, none⟩) (Kd.R_far (p := ⟨gb113, 0, none⟩) (Kd.R_types (Kd.R_types HO109.out BK113.out (by decide)) BK114.out (by decide)) (fun _ hk => hk.1.2) (.slice Ao10 t101.length co10)) (fun _ hk => hk.1.2) (.slice Ao13 t104.length co13)) (fun _ hk => hk.2) (.slice Ao14 t107.length co14)) (fun _ hk => hk.2) (.slice Ao16 t110.length co16)) (fun _ h_ => h_.1)) (fun _ h_ => h_.1)))); (case side2 => exact (Kd.R_reads' HO109.out).2.1); (case side3 => refine (Kd.R_reads' (e := 3) (base := w.heap.size) (ok := fun k_ => (some k_ ≠ (.slice Ao10 t101.length co10 : Value).ownBlock ∧ (some k_ ≠ (.slice Ao13 t104.length co13 : Value).ownBlock ∧ some k_ ≠ (.slice Ao14 t107.length co14 : Value).ownBlock))) (n := t110.length) (c := co16) ?_).2.2; exact (by (with_reducible repeat (first | apply Kd.R_alloc | apply Kd.R_drewN | apply Kd.R_drew)); exact (Kd.R_mono (Kd.R_mono (Kd.R_far (p := ⟨gb114, 1, none⟩) (Kd.R_far (p := ⟨gb114, 0, none⟩) (Kd.R_far (p := ⟨gb113, 1, none⟩) (Kd.R_far (p := ⟨gb113, 0, none⟩) (Kd.R_types (Kd.R_types HO112.out BK113.out (by decide)) BK114.out (by decide)) (fun _ hk => hk.1.2) (.slice Ao10 t101.length co10)) (fun _ hk => hk.1.2) (.slice Ao13 t104.length co13)) (fun _ hk => hk.2) (.slice Ao14 t107.length co14)) (fun _ hk => hk.2) (.slice Ao16 t110.length co16)) (fun _ h_ => h_.1)) (fun _ h_ => h_.1)))); (case side4 => exact (Kd.R_reads' HO112.out).2.1); (case side5 => exact Kd.C_below HR1.out (by repeat (first | (with_reducible first | exact HB.out | apply below_alloc | apply pw_below_drewN | apply below_drew1 | refine below_set ?_ GE113.out | refine below_set ?_ GE114.out) | exact HB.out))); (case side6 => exact HC1.out); rintro e w17 ⟨rfl, hb⟩; refine ⟨_, rfl, ?_⟩; have n0_ := Aside0.mk (Kd.R_below (by (with_reducible repeat (first | apply Kd.R_alloc | apply Kd.R_drewN | apply Kd.R_drew)); exact (Kd.R_mono (Kd.R_mono (Kd.R_far (p := ⟨gb114, 1, none⟩) (Kd.R_far (p := ⟨gb114, 0, none⟩) (Kd.R_far (p := ⟨gb113, 1, none⟩) (Kd.R_far (p := ⟨gb113, 0, none⟩) (Kd.R_types (Kd.R_types HO103.out BK113.out (by decide)) BK114.out (by decide)) (fun _ hk => hk.1.2) (.slice Ao10 t101.length co10)) (fun _ hk => hk.1.2) (.slice Ao13 t104.length co13)) (fun _ hk => hk.2) (.slice Ao14 t107.length co14)) (fun _ hk => hk.2) (.slice Ao16 t110.length co16)) (fun _ h_ => h_.1)) (fun _ h_ => h_.1))) hb); have n1_ := Aside0.mk (Kd.R_below (by (with_reducible repeat (first | apply Kd.R_alloc | apply Kd.R_drewN | apply Kd.R_drew)); exact (Kd.R_mono (Kd.R_mono (Kd.R_far (p := ⟨gb114, 1, none⟩) (Kd.R_far (p := ⟨gb114, 0, none⟩) (Kd.R_far (p := ⟨gb113, 1, none⟩) (Kd.R_far (p := ⟨gb113, 0, none⟩) (Kd.R_types (Kd.R_types HO106.out BK113.out (by decide)) BK114.out (by decide)) (fun _ hk => hk.1.2) (.slice Ao10 t101.length co10)) (fun _ hk => hk.1.2) (.slice Ao13 t104.length co13)) (fun _ hk => hk.2) (.slice Ao14 t107.length co14)) (fun _ hk => hk.2) (.slice Ao16 t110.length co16)) (fun _ h_ => h_.1)) (fun _ h_ => h_.1))) hb); have n2_ := Aside0.mk (Kd.R_below (by (with_reducible repeat (first | apply Kd.R_alloc | apply Kd.R_drewN | apply Kd.R_drew)); exact (Kd.R_mono (Kd.R_mono (Kd.R_far (p := ⟨gb114, 1, none⟩) (Kd.R_far (p := ⟨gb114, 0, none⟩) (Kd.R_far (p := ⟨gb113, 1, none⟩) (Kd.R_far (p := ⟨gb113, 0, none⟩) (Kd.R_types (Kd.R_types HO109.out BK113.out (by decide)) BK114.out (by decide)) (fun _ hk => hk.1.2) (.slice Ao10 t101.length co10)) (fun _ hk => hk.1.2) (.slice Ao13 t104.length co13)) (fun _ hk => hk.2) (.slice Ao14 t107.length co14)) (fun _ hk => hk.2) (.slice Ao16 t110.length co16)) (fun _ h_ => h_.1)) (fun _ h_ => h_.1))) hb); have n3_ := Aside0.mk (Kd.R_below (by (with_reducible repeat (first | apply Kd.R_alloc | apply Kd.R_drewN | apply Kd.R_drew)); exact (Kd.R_mono (Kd.R_mono (Kd.R_far (p := ⟨gb114, 1, none⟩) (Kd.R_far (p := ⟨gb114, 0, none⟩) (Kd.R_far (p := ⟨gb113, 1, none⟩) (Kd.R_far (p := ⟨gb113, 0, none⟩) (Kd.R_types (Kd.R_types HO112.out BK113.out (by decide)) BK114.out (by decide)) (fun _ hk => hk.1.2) (.slice Ao10 t101.length co10)) (fun _ hk => hk.1.2) (.slice Ao13 t104.length co13)) (fun _ hk => hk.2) (.slice Ao14 t107.length co14)) (fun _ hk => hk.2) (.slice Ao16 t110.length co16)) (fun _ h_ => h_.1)) (fun _ h_ => h_.1))) hb); have n4_ := Aside0.mk (blk_below (g := gb113) (o := .cells #[.slice Ao10 t101.length co10, .slice Ao13 t104.length co13] 24 (0, 0)) (by (with_reducible repeat (first | refine blk_drewN ?_ _ | refine blk_drew ?_ | refine blk_alloc ?_ _)); refine blk_far ?_ NB113_114.out _; (with_reducible repeat (first | refine blk_drewN ?_ _ | refine blk_drew ?_ | refine blk_alloc ?_ _)); refine blk_far ?_ NB113_114.out _; (with_reducible repeat (first | refine blk_drewN ?_ _ | refine blk_drew ?_ | refine blk_alloc ?_ _)); refine blk_put (cs := #[.slice Ao10 t101.length co10, .slice none 0 0]) ?_ 1 _ rfl; (with_reducible repeat (first | refine blk_drewN ?_ _ | refine blk_drew ?_ | refine blk_alloc ?_ _)); refine blk_put (cs := #[.slice none 0 0, .slice none 0 0]) ?_ 0 _ rfl; (with_reducible repeat (first | refine blk_drewN ?_ _ | refine blk_drew ?_ | refine blk_alloc ?_ _)); exact BK113.out) hb); have n5_ := Aside0.mk (blk_below (g := gb114) (o := .cells #[.slice Ao14 t107.length co14, .slice Ao16 t110.length co16] 25 (0, 0)) (by (with_reducible repeat (first | refine blk_drewN ?_ _ | refine blk_drew ?_ | refine blk_alloc ?_ _)); refine blk_put (cs := #[.slice Ao14 t107.length co14, .slice none 0 0]) ?_ 1 _ rfl; (with_reducible repeat (first | refine blk_drewN ?_ _ | refine blk_drew ?_ | refine blk_alloc ?_ _)); refine blk_put (cs := #[.slice none 0 0, .slice none 0 0]) ?_ 0 _ rfl; (with_reducible repeat (first | refine blk_drewN ?_ _ | refine blk_drew ?_ | refine blk_alloc ?_ _)); refine blk_far ?_ NB114_113.out _; (with_reducible repeat (first | refine blk_drewN ?_ _ | refine blk_drew ?_ | refine blk_alloc ?_ _)); refine blk_far ?_ NB114_113.out _; (with_reducible repeat (first | refine blk_drewN ?_ _ | refine blk_drew ?_ | refine blk_alloc ?_ _)); exact BK114.out) hb); have n6_ := Aside0.mk (below_step (by repeat (first | (with_reducible first | exact HB.out | apply below_alloc | apply pw_below_drewN | apply below_drew1 | refine below_set ?_ GE113.out | refine below_set ?_ GE114.out) | exact HB.out)) hb); clear HO103; clear HO106; clear HO109; clear HO112; clear BK113; clear BK114; clear HB; have HO103 := n0_; have HO106 := n1_; have HO109 := n2_; have HO112 := n3_; have BK113 := n4_; have BK114 := n5_; have HB := n6_; clear n0_ n1_ n2_ n3_ n4_ n5_ n6_; (try clear hb); (try clear hb2); (try clear hk); (try clear hi)))
  (try simp only [Act.put, List.setIfInBounds_toArray, List.set_cons_zero, List.set_cons_succ])
  go_cut [32] (fun v32 wc => ∃ (kq : Nat) (x32_5 : Bool), v32 = .bool x32_5 ∧ Aside0 (imprimaturlaw06_ShapeConfigs.j0 kq a2 t115 x32_5 t101 t104 = some r) ∧ Aside0 (kq ≤ k) ∧ Aside0 (Kd.R (Kd.int .i64) 3 wc w.heap.size (fun k_ => some k_ ≠ ((.slice Ao13 t104.length co13) : Value).ownBlock ∧ some k_ ≠ ((.slice Ao14 t107.length co14) : Value).ownBlock ∧ some k_ ≠ ((.slice Ao16 t110.length co16) : Value).ownBlock) (.slice Ao10 t101.length co10) t101) ∧ Aside0 (Kd.R (Kd.int .i64) 3 wc w.heap.size (fun k_ => some k_ ≠ ((.slice Ao10 t101.length co10) : Value).ownBlock ∧ some k_ ≠ ((.slice Ao14 t107.length co14) : Value).ownBlock ∧ some k_ ≠ ((.slice Ao16 t110.length co16) : Value).ownBlock) (.slice Ao13 t104.length co13) t104) ∧ Aside0 (Kd.R (Kd.int .i64) 3 wc w.heap.size (fun k_ => some k_ ≠ ((.slice Ao10 t101.length co10) : Value).ownBlock ∧ some k_ ≠ ((.slice Ao13 t104.length co13) : Value).ownBlock ∧ some k_ ≠ ((.slice Ao16 t110.length co16) : Value).ownBlock) (.slice Ao14 t107.length co14) t107) ∧ Aside0 (Kd.R (Kd.int .i64) 3 wc w.heap.size (fun k_ => some k_ ≠ ((.slice Ao10 t101.length co10) : Value).ownBlock ∧ some k_ ≠ ((.slice Ao13 t104.length co13) : Value).ownBlock ∧ some k_ ≠ ((.slice Ao14 t107.length co14) : Value).ownBlock) (.slice Ao16 t110.length co16) t110) ∧ Aside0 (wc.heap[gb113]? = some (.cells #[(.slice Ao10 t101.length co10), (.slice Ao13 t104.length co13)] 24 (0, 0))) ∧ Aside0 (wc.heap[gb114]? = some (.cells #[(.slice Ao14 t107.length co14), (.slice Ao16 t110.length co16)] 25 (0, 0))) ∧ Aside0 (Below w.heap.size w wc))
  case first =>
    have H := HC6.out
    clear HC6
    replace H := Option.bind_eq_some_iff.mp H
    obtain ⟨t116, A180, H⟩ := H
    replace H : (if t116 = true then ((shape_Proper.f k t101 t104 0).bind fun t117 => (if t117 = true then (imprimaturlaw06_ShapeConfigs.j0 k a2 t115 true t101 t104) else ((shape_Proper.f k t101 t104 (Go.bits .or .u32 t115 2147483648)).bind fun t118 => (imprimaturlaw06_ShapeConfigs.j0 k a2 t115 t118 t101 t104)))) else (imprimaturlaw06_ShapeConfigs.j0 k a2 t115 true t101 t104)) = some r := H
    have A18 := Aside0.mk A180
    clear A180
    by_cases c19 : t116 = true
    · subst c19
      have H1 : ((shape_Proper.f k t101 t104 0).bind fun t117 => (if t117 = true then (imprimaturlaw06_ShapeConfigs.j0 k a2 t115 true t101 t104) else ((shape_Proper.f k t101 t104 (Go.bits .or .u32 t115 2147483648)).bind fun t118 => (imprimaturlaw06_ShapeConfigs.j0 k a2 t115 t118 t101 t104)))) = some r := by rw [if_pos rfl] at H; exact H
      clear H
      have H := H1
      clear H1
      replace H := Option.bind_eq_some_iff.mp H
      obtain ⟨t117, A200, H⟩ := H
      replace H : (if t117 = true then (imprimaturlaw06_ShapeConfigs.j0 k a2 t115 true t101 t104) else ((shape_Proper.f k t101 t104 (Go.bits .or .u32 t115 2147483648)).bind fun t118 => (imprimaturlaw06_ShapeConfigs.j0 k a2 t115 t118 t101 t104))) = some r := H
      have A20 := Aside0.mk A200
      clear A200
      by_cases c21 : t117 = true
      · subst c21
        have H1 : (imprimaturlaw06_ShapeConfigs.j0 k a2 t115 true t101 t104) = some r := by rw [if_pos rfl] at H; exact H
        clear H
        have H := H1
        clear H1
        have H' := Aside0.mk H
        clear H
        have hnb22 := NB113_114.out
        have hnc22 := NB114_113.out
        have hcz23_0 : w17.cell? ⟨gb113, 0, none⟩ = some (.slice Ao10 t101.length co10) := (blk_cell BK113.out 0).trans rfl
        have hcz23_1 : w17.cell? ⟨gb113, 1, none⟩ = some (.slice Ao13 t104.length co13) := (blk_cell BK113.out 1).trans rfl
        have hfz23_0 := blk_frozen BK113.out 0
        have hfz23_1 := blk_frozen BK113.out 1
        go_wp2_with (first | ((with_reducible refine gate_callee (f := 15) rfl ?_); refine goesL_ (some 21) rfl rfl Try.func15 (by kernel_rfl) rfl #[.agg #[.slice Ao10 t101.length co10, .slice Ao13 t104.length co13], .int .u32 t115] rfl (by (try simp only [List.map_toArray, List.map_cons, List.map_nil]); first | done | rfl | (simp only [List.length_drop, List.length_take]; rfl)) ?_; (with_reducible refine (shape_Proper.calls k _ _ t101 _ _ t104 t115 true _ ?side1 ?side2 ?side3 ?side4 A18.out).mono ?_); (case side1 => repeat (first | exact (Kd.R_reads' HO103.out).2.2 | (with_reducible refine Kd.C_alloc ?_ _) | (with_reducible refine Kd.C_drewN ?_ _) | (with_reducible refine Kd.C_drew ?_))); (case side2 => exact (Kd.R_reads' HO103.out).2.1); (case side3 => repeat (first | exact (Kd.R_reads' HO106.out).2.2 | (with_reducible refine Kd.C_alloc ?_ _) | (with_reducible refine Kd.C_drewN ?_ _) | (with_reducible refine Kd.C_drew ?_))); (case side4 => exact (Kd.R_reads' HO106.out).2.1); rintro e w24 ⟨rfl, hb⟩; refine ⟨_, rfl, ?_⟩; have n0_ := Aside0.mk (Kd.R_below (by (with_reducible repeat (first | apply Kd.R_alloc | apply Kd.R_drewN | apply Kd.R_drew)); exact HO103.out) hb); have n1_ := Aside0.mk (Kd.R_below (by (with_reducible repeat (first | apply Kd.R_alloc | apply Kd.R_drewN | apply Kd.R_drew)); exact HO106.out) hb); have n2_ := Aside0.mk (Kd.R_below (by (with_reducible repeat (first | apply Kd.R_alloc | apply Kd.R_drewN | apply Kd.R_drew)); exact HO109.out) hb); have n3_ := Aside0.mk (Kd.R_below (by (with_reducible repeat (first | apply Kd.R_alloc | apply Kd.R_drewN | apply Kd.R_drew)); exact HO112.out) hb); have n4_ := Aside0.mk (blk_below (g := gb113) (o := .cells #[.slice Ao10 t101.length co10, .slice Ao13 t104.length co13] 24 (0, 0)) (by (with_reducible repeat (first | refine blk_drewN ?_ _ | refine blk_drew ?_ | refine blk_alloc ?_ _)); exact BK113.out) hb); have n5_ := Aside0.mk (blk_below (g := gb114) (o := .cells #[.slice Ao14 t107.length co14, .slice Ao16 t110.length co16] 25 (0, 0)) (by (with_reducible repeat (first | refine blk_drewN ?_ _ | refine blk_drew ?_ | refine blk_alloc ?_ _)); exact BK114.out) hb); have n6_ := Aside0.mk (below_step (by repeat (first | (with_reducible first | exact HB.out | apply below_alloc | apply pw_below_drewN | apply below_drew1 | refine below_set ?_ GE113.out | refine below_set ?_ GE114.out) | exact HB.out)) hb); clear HO103; clear HO106; clear HO109; clear HO112; clear BK113; clear BK114; clear HB; have HO103 := n0_; have HO106 := n1_; have HO109 := n2_; have HO112 := n3_; have BK113 := n4_; have BK114 := n5_; have HB := n6_; clear n0_ n1_ n2_ n3_ n4_ n5_ n6_; (try clear hb); (try clear hb2); (try clear hk); (try clear hi); have hcz25_0 : w24.cell? ⟨gb113, 0, none⟩ = some (.slice Ao10 t101.length co10) := (blk_cell BK113.out 0).trans rfl; have hcz25_1 : w24.cell? ⟨gb113, 1, none⟩ = some (.slice Ao13 t104.length co13) := (blk_cell BK113.out 1).trans rfl; have hfz25_0 := blk_frozen BK113.out 0; have hfz25_1 := blk_frozen BK113.out 1) | (go_at_call 15; (with_reducible refine (shape_Proper.calls k _ _ t101 _ _ t104 0 true _ ?side1 ?side2 ?side3 ?side4 A20.out).mono ?_); (case side1 => repeat (first | exact (Kd.R_reads' HO103.out).2.2 | (with_reducible refine Kd.C_alloc ?_ _) | (with_reducible refine Kd.C_drewN ?_ _) | (with_reducible refine Kd.C_drew ?_))); (case side2 => exact (Kd.R_reads' HO103.out).2.1); (case side3 => repeat (first | exact (Kd.R_reads' HO106.out).2.2 | (with_reducible refine Kd.C_alloc ?_ _) | (with_reducible refine Kd.C_drewN ?_ _) | (with_reducible refine Kd.C_drew ?_))); (case side4 => exact (Kd.R_reads' HO106.out).2.1); rintro e w26 ⟨rfl, hb⟩; have n0_ := Aside0.mk (Kd.R_below (by (with_reducible repeat (first | apply Kd.R_alloc | apply Kd.R_drewN | apply Kd.R_drew)); exact HO103.out) hb); have n1_ := Aside0.mk (Kd.R_below (by (with_reducible repeat (first | apply Kd.R_alloc | apply Kd.R_drewN | apply Kd.R_drew)); exact HO106.out) hb); have n2_ := Aside0.mk (Kd.R_below (by (with_reducible repeat (first | apply Kd.R_alloc | apply Kd.R_drewN | apply Kd.R_drew)); exact HO109.out) hb); have n3_ := Aside0.mk (Kd.R_below (by (with_reducible repeat (first | apply Kd.R_alloc | apply Kd.R_drewN | apply Kd.R_drew)); exact HO112.out) hb); have n4_ := Aside0.mk (blk_below (g := gb113) (o := .cells #[.slice Ao10 t101.length co10, .slice Ao13 t104.length co13] 24 (0, 0)) (by (with_reducible repeat (first | refine blk_drewN ?_ _ | refine blk_drew ?_ | refine blk_alloc ?_ _)); exact BK113.out) hb); have n5_ := Aside0.mk (blk_below (g := gb114) (o := .cells #[.slice Ao14 t107.length co14, .slice Ao16 t110.length co16] 25 (0, 0)) (by (with_reducible repeat (first | refine blk_drewN ?_ _ | refine blk_drew ?_ | refine blk_alloc ?_ _)); exact BK114.out) hb); have n6_ := Aside0.mk (below_step (by repeat (first | (with_reducible first | exact HB.out | apply below_alloc | apply pw_below_drewN | apply below_drew1 | refine below_set ?_ GE113.out | refine below_set ?_ GE114.out) | exact HB.out)) hb); clear HO103; clear HO106; clear HO109; clear HO112; clear BK113; clear BK114; clear HB; have HO103 := n0_; have HO106 := n1_; have HO109 := n2_; have HO112 := n3_; have BK113 := n4_; have BK114 := n5_; have HB := n6_; clear n0_ n1_ n2_ n3_ n4_ n5_ n6_; (try clear hb); (try clear hb2); (try clear hk); (try clear hi)))
        go_meet
        case rel => exact ⟨_, (true), (by first | rfl | (simp; done) | (simp [*]; done)), H', ⟨by first | omega | exact Nat.le_refl _⟩, ⟨by (with_reducible repeat (first | apply Kd.R_alloc | apply Kd.R_drewN | apply Kd.R_drew)); exact HO103.out⟩, ⟨by (with_reducible repeat (first | apply Kd.R_alloc | apply Kd.R_drewN | apply Kd.R_drew)); exact HO106.out⟩, ⟨by (with_reducible repeat (first | apply Kd.R_alloc | apply Kd.R_drewN | apply Kd.R_drew)); exact HO109.out⟩, ⟨by (with_reducible repeat (first | apply Kd.R_alloc | apply Kd.R_drewN | apply Kd.R_drew)); exact HO112.out⟩, ⟨by (with_reducible repeat (first | refine blk_drewN ?_ _ | refine blk_drew ?_ | refine blk_alloc ?_ _)); exact BK113.out⟩, ⟨by (with_reducible repeat (first | refine blk_drewN ?_ _ | refine blk_drew ?_ | refine blk_alloc ?_ _)); exact BK114.out⟩, ⟨by repeat (first | (with_reducible first | exact HB.out | apply below_alloc | apply pw_below_drewN | apply below_drew1 | refine below_set ?_ GE113.out | refine below_set ?_ GE114.out) | exact HB.out)⟩⟩
      · replace c21 := Bool.eq_false_iff.mpr c21
        subst c21
        have H1 : ((shape_Proper.f k t101 t104 (Go.bits .or .u32 t115 2147483648)).bind fun t118 => (imprimaturlaw06_ShapeConfigs.j0 k a2 t115 t118 t101 t104)) = some r := by rw [if_neg (show ¬ (false = true) by decide)] at H; exact H
        clear H
        have H := H1
        clear H1
        replace H := Option.bind_eq_some_iff.mp H
        obtain ⟨t118, A270, H⟩ := H
        replace H : (imprimaturlaw06_ShapeConfigs.j0 k a2 t115 t118 t101 t104) = some r := H
        have A27 := Aside0.mk A270
        clear A270
        have H' := Aside0.mk H
        clear H
        have hnb28 := NB113_114.out
        have hnc28 := NB114_113.out
        have hcz29_0 : w17.cell? ⟨gb113, 0, none⟩ = some (.slice Ao10 t101.length co10) := (blk_cell BK113.out 0).trans rfl
        have hcz29_1 : w17.cell? ⟨gb113, 1, none⟩ = some (.slice Ao13 t104.length co13) := (blk_cell BK113.out 1).trans rfl
        have hfz29_0 := blk_frozen BK113.out 0
        have hfz29_1 := blk_frozen BK113.out 1
        go_wp2_with (first | ((with_reducible refine gate_callee (f := 15) rfl ?_); refine goesL_ (some 21) rfl rfl Try.func15 (by kernel_rfl) rfl #[.agg #[.slice Ao10 t101.length co10, .slice Ao13 t104.length co13], .int .u32 t115] rfl (by (try simp only [List.map_toArray, List.map_cons, List.map_nil]); first | done | rfl | (simp only [List.length_drop, List.length_take]; rfl)) ?_; (with_reducible refine (shape_Proper.calls k _ _ t101 _ _ t104 t115 true _ ?side1 ?side2 ?side3 ?side4 A18.out).mono ?_); (case side1 => repeat (first | exact (Kd.R_reads' HO103.out).2.2 | (with_reducible refine Kd.C_alloc ?_ _) | (with_reducible refine Kd.C_drewN ?_ _) | (with_reducible refine Kd.C_drew ?_))); (case side2 => exact (Kd.R_reads' HO103.out).2.1); (case side3 => repeat (first | exact (Kd.R_reads' HO106.out).2.2 | (with_reducible refine Kd.C_alloc ?_ _) | (with_reducible refine Kd.C_drewN ?_ _) | (with_reducible refine Kd.C_drew ?_))); (case side4 => exact (Kd.R_reads' HO106.out).2.1); rintro e w30 ⟨rfl, hb⟩; refine ⟨_, rfl, ?_⟩; have n0_ := Aside0.mk (Kd.R_below (by (with_reducible repeat (first | apply Kd.R_alloc | apply Kd.R_drewN | apply Kd.R_drew)); exact HO103.out) hb); have n1_ := Aside0.mk (Kd.R_below (by (with_reducible repeat (first | apply Kd.R_alloc | apply Kd.R_drewN | apply Kd.R_drew)); exact HO106.out) hb); have n2_ := Aside0.mk (Kd.R_below (by (with_reducible repeat (first | apply Kd.R_alloc | apply Kd.R_drewN | apply Kd.R_drew)); exact HO109.out) hb); have n3_ := Aside0.mk (Kd.R_below (by (with_reducible repeat (first | apply Kd.R_alloc | apply Kd.R_drewN | apply Kd.R_drew)); exact HO112.out) hb); have n4_ := Aside0.mk (blk_below (g := gb113) (o := .cells #[.slice Ao10 t101.length co10, .slice Ao13 t104.length co13] 24 (0, 0)) (by (with_reducible repeat (first | refine blk_drewN ?_ _ | refine blk_drew ?_ | refine blk_alloc ?_ _)); exact BK113.out) hb); have n5_ := Aside0.mk (blk_below (g := gb114) (o := .cells #[.slice Ao14 t107.length co14, .slice Ao16 t110.length co16] 25 (0, 0)) (by (with_reducible repeat (first | refine blk_drewN ?_ _ | refine blk_drew ?_ | refine blk_alloc ?_ _)); exact BK114.out) hb); have n6_ := Aside0.mk (below_step (by repeat (first | (with_reducible first | exact HB.out | apply below_alloc | apply pw_below_drewN | apply below_drew1 | refine below_set ?_ GE113.out | refine below_set ?_ GE114.out) | exact HB.out)) hb); clear HO103; clear HO106; clear HO109; clear HO112; clear BK113; clear BK114; clear HB; have HO103 := n0_; have HO106 := n1_; have HO109 := n2_; have HO112 := n3_; have BK113 := n4_; have BK114 := n5_; have HB := n6_; clear n0_ n1_ n2_ n3_ n4_ n5_ n6_; (try clear hb); (try clear hb2); (try clear hk); (try clear hi); have hcz31_0 : w30.cell? ⟨gb113, 0, none⟩ = some (.slice Ao10 t101.length co10) := (blk_cell BK113.out 0).trans rfl; have hcz31_1 : w30.cell? ⟨gb113, 1, none⟩ = some (.slice Ao13 t104.length co13) := (blk_cell BK113.out 1).trans rfl; have hfz31_0 := blk_frozen BK113.out 0; have hfz31_1 := blk_frozen BK113.out 1) | (go_at_call 15; (with_reducible refine (shape_Proper.calls k _ _ t101 _ _ t104 0 false _ ?side1 ?side2 ?side3 ?side4 A20.out).mono ?_); (case side1 => repeat (first | exact (Kd.R_reads' HO103.out).2.2 | (with_reducible refine Kd.C_alloc ?_ _) | (with_reducible refine Kd.C_drewN ?_ _) | (with_reducible refine Kd.C_drew ?_))); (case side2 => exact (Kd.R_reads' HO103.out).2.1); (case side3 => repeat (first | exact (Kd.R_reads' HO106.out).2.2 | (with_reducible refine Kd.C_alloc ?_ _) | (with_reducible refine Kd.C_drewN ?_ _) | (with_reducible refine Kd.C_drew ?_))); (case side4 => exact (Kd.R_reads' HO106.out).2.1); rintro e w32 ⟨rfl, hb⟩; have n0_ := Aside0.mk (Kd.R_below (by (with_reducible repeat (first | apply Kd.R_alloc | apply Kd.R_drewN | apply Kd.R_drew)); exact HO103.out) hb); have n1_ := Aside0.mk (Kd.R_below (by (with_reducible repeat (first | apply Kd.R_alloc | apply Kd.R_drewN | apply Kd.R_drew)); exact HO106.out) hb); have n2_ := Aside0.mk (Kd.R_below (by (with_reducible repeat (first | apply Kd.R_alloc | apply Kd.R_drewN | apply Kd.R_drew)); exact HO109.out) hb); have n3_ := Aside0.mk (Kd.R_below (by (with_reducible repeat (first | apply Kd.R_alloc | apply Kd.R_drewN | apply Kd.R_drew)); exact HO112.out) hb); have n4_ := Aside0.mk (blk_below (g := gb113) (o := .cells #[.slice Ao10 t101.length co10, .slice Ao13 t104.length co13] 24 (0, 0)) (by (with_reducible repeat (first | refine blk_drewN ?_ _ | refine blk_drew ?_ | refine blk_alloc ?_ _)); exact BK113.out) hb); have n5_ := Aside0.mk (blk_below (g := gb114) (o := .cells #[.slice Ao14 t107.length co14, .slice Ao16 t110.length co16] 25 (0, 0)) (by (with_reducible repeat (first | refine blk_drewN ?_ _ | refine blk_drew ?_ | refine blk_alloc ?_ _)); exact BK114.out) hb); have n6_ := Aside0.mk (below_step (by repeat (first | (with_reducible first | exact HB.out | apply below_alloc | apply pw_below_drewN | apply below_drew1 | refine below_set ?_ GE113.out | refine below_set ?_ GE114.out) | exact HB.out)) hb); clear HO103; clear HO106; clear HO109; clear HO112; clear BK113; clear BK114; clear HB; have HO103 := n0_; have HO106 := n1_; have HO109 := n2_; have HO112 := n3_; have BK113 := n4_; have BK114 := n5_; have HB := n6_; clear n0_ n1_ n2_ n3_ n4_ n5_ n6_; (try clear hb); (try clear hb2); (try clear hk); (try clear hi); have hcz33_0 : w32.cell? ⟨gb113, 0, none⟩ = some (.slice Ao10 t101.length co10) := (blk_cell BK113.out 0).trans rfl; have hcz33_1 : w32.cell? ⟨gb113, 1, none⟩ = some (.slice Ao13 t104.length co13) := (blk_cell BK113.out 1).trans rfl; have hfz33_0 := blk_frozen BK113.out 0; have hfz33_1 := blk_frozen BK113.out 1) | (go_at_call 15; (with_reducible refine (shape_Proper.calls k _ _ t101 _ _ t104 (Go.bits .or .u32 t115 2147483648) t118 _ ?side1 ?side2 ?side3 ?side4 A27.out).mono ?_); (case side1 => repeat (first | exact (Kd.R_reads' HO103.out).2.2 | (with_reducible refine Kd.C_alloc ?_ _) | (with_reducible refine Kd.C_drewN ?_ _) | (with_reducible refine Kd.C_drew ?_))); (case side2 => exact (Kd.R_reads' HO103.out).2.1); (case side3 => repeat (first | exact (Kd.R_reads' HO106.out).2.2 | (with_reducible refine Kd.C_alloc ?_ _) | (with_reducible refine Kd.C_drewN ?_ _) | (with_reducible refine Kd.C_drew ?_))); (case side4 => exact (Kd.R_reads' HO106.out).2.1); rintro e w34 ⟨rfl, hb⟩; have n0_ := Aside0.mk (Kd.R_below (by (with_reducible repeat (first | apply Kd.R_alloc | apply Kd.R_drewN | apply Kd.R_drew)); exact HO103.out) hb); have n1_ := Aside0.mk (Kd.R_below (by (with_reducible repeat (first | apply Kd.R_alloc | apply Kd.R_drewN | apply Kd.R_drew)); exact HO106.out) hb); have n2_ := Aside0.mk (Kd.R_below (by (with_reducible repeat (first | apply Kd.R_alloc | apply Kd.R_drewN | apply Kd.R_drew)); exact HO109.out) hb); have n3_ := Aside0.mk (Kd.R_below (by (with_reducible repeat (first | apply Kd.R_alloc | apply Kd.R_drewN | apply Kd.R_drew)); exact HO112.out) hb); have n4_ := Aside0.mk (blk_below (g := gb113) (o := .cells #[.slice Ao10 t101.length co10, .slice Ao13 t104.length co13] 24 (0, 0)) (by (with_reducible repeat (first | refine blk_drewN ?_ _ | refine blk_drew ?_ | refine blk_alloc ?_ _)); exact BK113.out) hb); have n5_ := Aside0.mk (blk_below (g := gb114) (o := .cells #[.slice Ao14 t107.length co14, .slice Ao16 t110.length co16] 25 (0, 0)) (by (with_reducible repeat (first | refine blk_drewN ?_ _ | refine blk_drew ?_ | refine blk_alloc ?_ _)); exact BK114.out) hb); have n6_ := Aside0.mk (below_step (by repeat (first | (with_reducible first | exact HB.out | apply below_alloc | apply pw_below_drewN | apply below_drew1 | refine below_set ?_ GE113.out | refine below_set ?_ GE114.out) | exact HB.out)) hb); clear HO103; clear HO106; clear HO109; clear HO112; clear BK113; clear BK114; clear HB; have HO103 := n0_; have HO106 := n1_; have HO109 := n2_; have HO112 := n3_; have BK113 := n4_; have BK114 := n5_; have HB := n6_; clear n0_ n1_ n2_ n3_ n4_ n5_ n6_; (try clear hb); (try clear hb2); (try clear hk); (try clear hi)))
        go_meet
        case rel => exact ⟨_, (t118), (by first | rfl | (simp; done) | (simp [*]; done)), H', ⟨by first | omega | exact Nat.le_refl _⟩, ⟨by (with_reducible repeat (first | apply Kd.R_alloc | apply Kd.R_drewN | apply Kd.R_drew)); exact HO103.out⟩, ⟨by (with_reducible repeat (first | apply Kd.R_alloc | apply Kd.R_drewN | apply Kd.R_drew)); exact HO106.out⟩, ⟨by (with_reducible repeat (first | apply Kd.R_alloc | apply Kd.R_drewN | apply Kd.R_drew)); exact HO109.out⟩, ⟨by (with_reducible repeat (first | apply Kd.R_alloc | apply Kd.R_drewN | apply Kd.R_drew)); exact HO112.out⟩, ⟨by (with_reducible repeat (first | refine blk_drewN ?_ _ | refine blk_drew ?_ | refine blk_alloc ?_ _)); exact BK113.out⟩, ⟨by (with_reducible repeat (first | refine blk_drewN ?_ _ | refine blk_drew ?_ | refine blk_alloc ?_ _)); exact BK114.out⟩, ⟨by repeat (first | (with_reducible first | exact HB.out | apply below_alloc | apply pw_below_drewN | apply below_drew1 | refine below_set ?_ GE113.out | refine below_set ?_ GE114.out) | exact HB.out)⟩⟩
    · replace c19 := Bool.eq_false_iff.mpr c19
      subst c19
      have H1 : (imprimaturlaw06_ShapeConfigs.j0 k a2 t115 true t101 t104) = some r := by rw [if_neg (show ¬ (false = true) by decide)] at H; exact H
      clear H
      have H := H1
      clear H1
      have H' := Aside0.mk H
      clear H
      have hnb35 := NB113_114.out
      have hnc35 := NB114_113.out
      have hcz36_0 : w17.cell? ⟨gb113, 0, none⟩ = some (.slice Ao10 t101.length co10) := (blk_cell BK113.out 0).trans rfl
      have hcz36_1 : w17.cell? ⟨gb113, 1, none⟩ = some (.slice Ao13 t104.length co13) := (blk_cell BK113.out 1).trans rfl
      have hfz36_0 := blk_frozen BK113.out 0
      have hfz36_1 := blk_frozen BK113.out 1
      go_wp2_with (first | ((with_reducible refine gate_callee (f := 15) rfl ?_); refine goesL_ (some 21) rfl rfl Try.func15 (by kernel_rfl) rfl #[.agg #[.slice Ao10 t101.length co10, .slice Ao13 t104.length co13], .int .u32 t115] rfl (by (try simp only [List.map_toArray, List.map_cons, List.map_nil]); first | done | rfl | (simp only [List.length_drop, List.length_take]; rfl)) ?_; (with_reducible refine (shape_Proper.calls k _ _ t101 _ _ t104 t115 false _ ?side1 ?side2 ?side3 ?side4 A18.out).mono ?_); (case side1 => repeat (first | exact (Kd.R_reads' HO103.out).2.2 | (with_reducible refine Kd.C_alloc ?_ _) | (with_reducible refine Kd.C_drewN ?_ _) | (with_reducible refine Kd.C_drew ?_))); (case side2 => exact (Kd.R_reads' HO103.out).2.1); (case side3 => repeat (first | exact (Kd.R_reads' HO106.out).2.2 | (with_reducible refine Kd.C_alloc ?_ _) | (with_reducible refine Kd.C_drewN ?_ _) | (with_reducible refine Kd.C_drew ?_))); (case side4 => exact (Kd.R_reads' HO106.out).2.1); rintro e w37 ⟨rfl, hb⟩; refine ⟨_, rfl, ?_⟩; have n0_ := Aside0.mk (Kd.R_below (by (with_reducible repeat (first | apply Kd.R_alloc | apply Kd.R_drewN | apply Kd.R_drew)); exact HO103.out) hb); have n1_ := Aside0.mk (Kd.R_below (by (with_reducible repeat (first | apply Kd.R_alloc | apply Kd.R_drewN | apply Kd.R_drew)); exact HO106.out) hb); have n2_ := Aside0.mk (Kd.R_below (by (with_reducible repeat (first | apply Kd.R_alloc | apply Kd.R_drewN | apply Kd.R_drew)); exact HO109.out) hb); have n3_ := Aside0.mk (Kd.R_below (by (with_reducible repeat (first | apply Kd.R_alloc | apply Kd.R_drewN | apply Kd.R_drew)); exact HO112.out) hb); have n4_ := Aside0.mk (blk_below (g := gb113) (o := .cells #[.slice Ao10 t101.length co10, .slice Ao13 t104.length co13] 24 (0, 0)) (by (with_reducible repeat (first | refine blk_drewN ?_ _ | refine blk_drew ?_ | refine blk_alloc ?_ _)); exact BK113.out) hb); have n5_ := Aside0.mk (blk_below (g := gb114) (o := .cells #[.slice Ao14 t107.length co14, .slice Ao16 t110.length co16] 25 (0, 0)) (by (with_reducible repeat (first | refine blk_drewN ?_ _ | refine blk_drew ?_ | refine blk_alloc ?_ _)); exact BK114.out) hb); have n6_ := Aside0.mk (below_step (by repeat (first | (with_reducible first | exact HB.out | apply below_alloc | apply pw_below_drewN | apply below_drew1 | refine below_set ?_ GE113.out | refine below_set ?_ GE114.out) | exact HB.out)) hb); clear HO103; clear HO106; clear HO109; clear HO112; clear BK113; clear BK114; clear HB; have HO103 := n0_; have HO106 := n1_; have HO109 := n2_; have HO112 := n3_; have BK113 := n4_; have BK114 := n5_; have HB := n6_; clear n0_ n1_ n2_ n3_ n4_ n5_ n6_; (try clear hb); (try clear hb2); (try clear hk); (try clear hi)))
      go_meet
      case rel => exact ⟨_, (true), (by first | rfl | (simp; done) | (simp [*]; done)), H', ⟨by first | omega | exact Nat.le_refl _⟩, ⟨by (with_reducible repeat (first | apply Kd.R_alloc | apply Kd.R_drewN | apply Kd.R_drew)); exact HO103.out⟩, ⟨by (with_reducible repeat (first | apply Kd.R_alloc | apply Kd.R_drewN | apply Kd.R_drew)); exact HO106.out⟩, ⟨by (with_reducible repeat (first | apply Kd.R_alloc | apply Kd.R_drewN | apply Kd.R_drew)); exact HO109.out⟩, ⟨by (with_reducible repeat (first | apply Kd.R_alloc | apply Kd.R_drewN | apply Kd.R_drew)); exact HO112.out⟩, ⟨by (with_reducible repeat (first | refine blk_drewN ?_ _ | refine blk_drew ?_ | refine blk_alloc ?_ _)); exact BK113.out⟩, ⟨by (with_reducible repeat (first | refine blk_drewN ?_ _ | refine blk_drew ?_ | refine blk_alloc ?_ _)); exact BK114.out⟩, ⟨by repeat (first | (with_reducible first | exact HB.out | apply below_alloc | apply pw_below_drewN | apply below_drew1 | refine below_set ?_ GE113.out | refine below_set ?_ GE114.out) | exact HB.out)⟩⟩
  case rest =>
    clear HC6
    try clear c1
    try clear c2
    try clear p2
    try clear c3
    try clear c4
    try clear c11
    try clear c13
    try clear c15
    try clear c18
    try clear c19
    try clear c21
    try clear c22
    try clear c28
    try clear c35
    try clear hcz12_0
    try clear hcz12_1
    try clear hcz15_0
    try clear hcz15_1
    try clear hcz23_0
    try clear hcz23_1
    try clear hcz25_0
    try clear hcz25_1
    try clear hcz29_0
    try clear hcz29_1
    try clear hcz31_0
    try clear hcz31_1
    try clear hcz33_0
    try clear hcz33_1
    try clear hcz36_0
    try clear hcz36_1
    try clear hfz12_0
    try clear hfz12_1
    try clear hfz15_0
    try clear hfz15_1
    try clear hfz23_0
    try clear hfz23_1
    try clear hfz25_0
    try clear hfz25_1
    try clear hfz29_0
    try clear hfz29_1
    try clear hfz31_0
    try clear hfz31_1
    try clear hfz33_0
    try clear hfz33_1
    try clear hfz36_0
    try clear hfz36_1
    obtain ⟨kq, x32_5, rfl, HA, HJ5, HO_114000, HO_114001, HO_115000, HO_115001, BK113, BK114, HB⟩ := hcut
    cases kq with
    | zero => exact absurd HA.out (by simp [imprimaturlaw06_ShapeConfigs.j0])
    | succ kj5 =>
      have H := HA.out
      clear HA
      simp only [imprimaturlaw06_ShapeConfigs.j0] at H
      by_cases c38 : x32_5 = true
      · subst c38
        have H1 : (some false) = some r := by rw [if_pos rfl] at H; exact H
        clear H
        have H := H1
        clear H1
        obtain rfl := Option.some.inj H
        go_wp2
        go_ret
        exact ⟨by first | rfl | (simp [errW_none, errW_some] <;> rfl) | (simp [*, errW_none, errW_some] <;> rfl), by repeat (first | (with_reducible first | exact HB.out | apply below_alloc | apply pw_below_drewN | apply below_drew1 | refine below_set ?_ GE113.out | refine below_set ?_ GE114.out) | exact HB.out)⟩
      · replace c38 := Bool.eq_false_iff.mpr c38
        subst c38
        have H1 : ((imprimaturkeep_Within.f a2 (t101.length : Int)).bind fun t119 => (if 0 ≤ (IntKind.u64.wrap (t119)) then ((shape_Proper.f kj5 t101 t104 (Go.bits .xor .u32 t115 (shl .u32 1 (IntKind.u64.wrap (t119))))).bind fun t120 => (if t120 = true then (some false) else ((imprimaturlaw06_wakes.f kj5).bind fun t121 => (some t121)))) else (none))) = some r := by rw [if_neg (show ¬ (false = true) by decide)] at H; exact H
        clear H
        have H := H1
        clear H1
        replace H := Option.bind_eq_some_iff.mp H
        obtain ⟨t119, A390, H⟩ := H
        replace H : (if 0 ≤ (IntKind.u64.wrap (t119)) then ((shape_Proper.f kj5 t101 t104 (Go.bits .xor .u32 t115 (shl .u32 1 (IntKind.u64.wrap (t119))))).bind fun t120 => (if t120 = true then (some false) else ((imprimaturlaw06_wakes.f kj5).bind fun t121 => (some t121)))) else (none)) = some r := H
        have A39 := Aside0.mk A390
        clear A390
        obtain ⟨ji40, hji40⟩ : ∃ j_ : Int, (IntKind.u64.wrap (t119)) = j_ := ⟨_, rfl⟩
        replace H : (if 0 ≤ (ji40) then ((shape_Proper.f kj5 t101 t104 (Go.bits .xor .u32 t115 (shl .u32 1 (ji40)))).bind fun t120 => (if t120 = true then (some false) else ((imprimaturlaw06_wakes.f kj5).bind fun t121 => (some t121)))) else (none)) = some r := by first | (rw [hji40] at H; exact H) | (simp only [hji40] at H ⊢; exact H)
        (try rw [hji40] at A39)
        by_cases c41 : 0 ≤ (ji40)
        · rw [if_pos c41] at H
          have c41b0 := eq_true c41
          have c41b1 : decide (0 ≤ (ji40)) = true := decide_eq_true c41
          clear c41
          obtain ⟨ji42, hji42⟩ : ∃ j_ : Int, (shl .u32 1 (ji40)) = j_ := ⟨_, rfl⟩
          replace H : ((shape_Proper.f kj5 t101 t104 (Go.bits .xor .u32 t115 (ji42))).bind fun t120 => (if t120 = true then (some false) else ((imprimaturlaw06_wakes.f kj5).bind fun t121 => (some t121)))) = some r := by first | (rw [hji42] at H; exact H) | (simp only [hji42] at H ⊢; exact H)
          (try rw [hji42] at A39)
          have hji42_ : (IntKind.u32.wrap (1 * 2 ^ min (ji40).toNat 32)) = ji42 := hji42
          have hji42z : (ji40) ≤ 32 → (IntKind.u32.wrap (1 * 2 ^ (ji40).toNat)) = ji42 := shl_small hji42
          have hji42u : (IntKind.u32.wrap (2 ^ min (ji40).toNat 32)) = ji42 := by have h_ := hji42_; rw [Int.one_mul] at h_; exact h_
          have hji42v : (ji40) ≤ 32 → (IntKind.u32.wrap (2 ^ (ji40).toNat)) = ji42 := fun hle_ => by have h_ := hji42z hle_; rw [Int.one_mul] at h_; exact h_
          replace H := Option.bind_eq_some_iff.mp H
          obtain ⟨t120, A430, H⟩ := H
          replace H : (if t120 = true then (some false) else ((imprimaturlaw06_wakes.f kj5).bind fun t121 => (some t121))) = some r := H
          have A43 := Aside0.mk A430
          clear A430
          by_cases c44 : t120 = true
          · subst c44
            have H1 : (some false) = some r := by rw [if_pos rfl] at H; exact H
            clear H
            have H := H1
            clear H1
            obtain rfl := Option.some.inj H
            have hnb45 := NB113_114.out
            have hnc45 := NB114_113.out
            have hcz46_0 : wc.cell? ⟨gb113, 0, none⟩ = some (.slice Ao10 t101.length co10) := (blk_cell BK113.out 0).trans rfl
            have hcz46_1 : wc.cell? ⟨gb113, 1, none⟩ = some (.slice Ao13 t104.length co13) := (blk_cell BK113.out 1).trans rfl
            have hfz46_0 := blk_frozen BK113.out 0
            have hfz46_1 := blk_frozen BK113.out 1
            go_wp2_with (first | ((with_reducible refine gate_callee (f := 19) rfl ?_); refine goesL_ (some 37) rfl rfl Try.func19 (by kernel_rfl) rfl #[.int .i64 a2, .int .i64 (t101.length : Int)] rfl (by (try simp only [List.map_toArray, List.map_cons, List.map_nil]); first | done | rfl | (simp only [List.length_drop, List.length_take]; rfl)) ?_; (with_reducible refine (imprimaturkeep_Within.calls a2 (t101.length : Int) t119 _ A39.out).mono ?_); rintro e w' ⟨rfl, ⟨nd, rfl⟩⟩; refine ⟨_, rfl, ?_⟩) | ((with_reducible refine gate_callee (f := 15) rfl ?_); refine goesL_ (some 44) rfl rfl Try.func15 (by kernel_rfl) rfl #[.agg #[.slice Ao10 t101.length co10, .slice Ao13 t104.length co13], .int .u32 (Go.bits .xor .u32 t115 (ji42))] rfl (by (try simp only [List.map_toArray, List.map_cons, List.map_nil]); first | done | (simp only [hji42]; rfl) | rfl | (simp only [List.length_drop, List.length_take]; rfl)) ?_; (with_reducible refine (shape_Proper.calls kj5 _ _ t101 _ _ t104 (Go.bits .xor .u32 t115 (ji42)) true _ ?side1 ?side2 ?side3 ?side4 A43.out).mono ?_); (case side1 => repeat (first | exact (Kd.R_reads' HO_114000.out).2.2 | (with_reducible refine Kd.C_alloc ?_ _) | (with_reducible refine Kd.C_drewN ?_ _) | (with_reducible refine Kd.C_drew ?_))); (case side2 => exact (Kd.R_reads' HO_114000.out).2.1); (case side3 => repeat (first | exact (Kd.R_reads' HO_114001.out).2.2 | (with_reducible refine Kd.C_alloc ?_ _) | (with_reducible refine Kd.C_drewN ?_ _) | (with_reducible refine Kd.C_drew ?_))); (case side4 => exact (Kd.R_reads' HO_114001.out).2.1); rintro e w47 ⟨rfl, hb⟩; refine ⟨_, rfl, ?_⟩; have n0_ := Aside0.mk (Kd.R_below (by (with_reducible repeat (first | apply Kd.R_alloc | apply Kd.R_drewN | apply Kd.R_drew)); exact HO_114000.out) hb); have n1_ := Aside0.mk (Kd.R_below (by (with_reducible repeat (first | apply Kd.R_alloc | apply Kd.R_drewN | apply Kd.R_drew)); exact HO_114001.out) hb); have n2_ := Aside0.mk (Kd.R_below (by (with_reducible repeat (first | apply Kd.R_alloc | apply Kd.R_drewN | apply Kd.R_drew)); exact HO_115000.out) hb); have n3_ := Aside0.mk (Kd.R_below (by (with_reducible repeat (first | apply Kd.R_alloc | apply Kd.R_drewN | apply Kd.R_drew)); exact HO_115001.out) hb); have n4_ := Aside0.mk (blk_below (g := gb113) (o := .cells #[.slice Ao10 t101.length co10, .slice Ao13 t104.length co13] 24 (0, 0)) (by (with_reducible repeat (first | refine blk_drewN ?_ _ | refine blk_drew ?_ | refine blk_alloc ?_ _)); exact BK113.out) hb); have n5_ := Aside0.mk (blk_below (g := gb114) (o := .cells #[.slice Ao14 t107.length co14, .slice Ao16 t110.length co16] 25 (0, 0)) (by (with_reducible repeat (first | refine blk_drewN ?_ _ | refine blk_drew ?_ | refine blk_alloc ?_ _)); exact BK114.out) hb); have n6_ := Aside0.mk (below_step (by repeat (first | (with_reducible first | exact HB.out | apply below_alloc | apply pw_below_drewN | apply below_drew1 | refine below_set ?_ GE113.out | refine below_set ?_ GE114.out) | exact HB.out)) hb); clear HO_114000; clear HO_114001; clear HO_115000; clear HO_115001; clear BK113; clear BK114; clear HB; have HO_114000 := n0_; have HO_114001 := n1_; have HO_115000 := n2_; have HO_115001 := n3_; have BK113 := n4_; have BK114 := n5_; have HB := n6_; clear n0_ n1_ n2_ n3_ n4_ n5_ n6_; (try clear hb); (try clear hb2); (try clear hk); (try clear hi)))
            go_ret
            exact ⟨by first | rfl | (simp [errW_none, errW_some] <;> rfl) | (simp only [← hji40, ← hji42]; first | rfl | (simp [errW_none, errW_some] <;> rfl)) | (simp [*, errW_none, errW_some] <;> rfl), by repeat (first | (with_reducible first | exact HB.out | apply below_alloc | apply pw_below_drewN | apply below_drew1 | refine below_set ?_ GE113.out | refine below_set ?_ GE114.out) | exact HB.out)⟩
          · replace c44 := Bool.eq_false_iff.mpr c44
            subst c44
            have H1 : ((imprimaturlaw06_wakes.f kj5).bind fun t121 => (some t121)) = some r := by rw [if_neg (show ¬ (false = true) by decide)] at H; exact H
            clear H
            have H := H1
            clear H1
            replace H := Option.bind_eq_some_iff.mp H
            obtain ⟨t121, A480, H⟩ := H
            replace H : (some t121) = some r := H
            have A48 := Aside0.mk A480
            clear A480
            obtain rfl := Option.some.inj H
            have hnb49 := NB113_114.out
            have hnc49 := NB114_113.out
            have hcz50_0 : wc.cell? ⟨gb113, 0, none⟩ = some (.slice Ao10 t101.length co10) := (blk_cell BK113.out 0).trans rfl
            have hcz50_1 : wc.cell? ⟨gb113, 1, none⟩ = some (.slice Ao13 t104.length co13) := (blk_cell BK113.out 1).trans rfl
            have hfz50_0 := blk_frozen BK113.out 0
            have hfz50_1 := blk_frozen BK113.out 1
            go_wp2_with (first | ((with_reducible refine gate_callee (f := 19) rfl ?_); refine goesL_ (some 37) rfl rfl Try.func19 (by kernel_rfl) rfl #[.int .i64 a2, .int .i64 (t101.length : Int)] rfl (by (try simp only [List.map_toArray, List.map_cons, List.map_nil]); first | done | rfl | (simp only [List.length_drop, List.length_take]; rfl)) ?_; (with_reducible refine (imprimaturkeep_Within.calls a2 (t101.length : Int) t119 _ A39.out).mono ?_); rintro e w' ⟨rfl, ⟨nd, rfl⟩⟩; refine ⟨_, rfl, ?_⟩) | ((with_reducible refine gate_callee (f := 15) rfl ?_); refine goesL_ (some 44) rfl rfl Try.func15 (by kernel_rfl) rfl #[.agg #[.slice Ao10 t101.length co10, .slice Ao13 t104.length co13], .int .u32 (Go.bits .xor .u32 t115 (ji42))] rfl (by (try simp only [List.map_toArray, List.map_cons, List.map_nil]); first | done | (simp only [hji42]; rfl) | rfl | (simp only [List.length_drop, List.length_take]; rfl)) ?_; (with_reducible refine (shape_Proper.calls kj5 _ _ t101 _ _ t104 (Go.bits .xor .u32 t115 (ji42)) false _ ?side1 ?side2 ?side3 ?side4 A43.out).mono ?_); (case side1 => repeat (first | exact (Kd.R_reads' HO_114000.out).2.2 | (with_reducible refine Kd.C_alloc ?_ _) | (with_reducible refine Kd.C_drewN ?_ _) | (with_reducible refine Kd.C_drew ?_))); (case side2 => exact (Kd.R_reads' HO_114000.out).2.1); (case side3 => repeat (first | exact (Kd.R_reads' HO_114001.out).2.2 | (with_reducible refine Kd.C_alloc ?_ _) | (with_reducible refine Kd.C_drewN ?_ _) | (with_reducible refine Kd.C_drew ?_))); (case side4 => exact (Kd.R_reads' HO_114001.out).2.1); rintro e w51 ⟨rfl, hb⟩; refine ⟨_, rfl, ?_⟩; have n0_ := Aside0.mk (Kd.R_below (by (with_reducible repeat (first | apply Kd.R_alloc | apply Kd.R_drewN | apply Kd.R_drew)); exact HO_114000.out) hb); have n1_ := Aside0.mk (Kd.R_below (by (with_reducible repeat (first | apply Kd.R_alloc | apply Kd.R_drewN | apply Kd.R_drew)); exact HO_114001.out) hb); have n2_ := Aside0.mk (Kd.R_below (by (with_reducible repeat (first | apply Kd.R_alloc | apply Kd.R_drewN | apply Kd.R_drew)); exact HO_115000.out) hb); have n3_ := Aside0.mk (Kd.R_below (by (with_reducible repeat (first | apply Kd.R_alloc | apply Kd.R_drewN | apply Kd.R_drew)); exact HO_115001.out) hb); have n4_ := Aside0.mk (blk_below (g := gb113) (o := .cells #[.slice Ao10 t101.length co10, .slice Ao13 t104.length co13] 24 (0, 0)) (by (with_reducible repeat (first | refine blk_drewN ?_ _ | refine blk_drew ?_ | refine blk_alloc ?_ _)); exact BK113.out) hb); have n5_ := Aside0.mk (blk_below (g := gb114) (o := .cells #[.slice Ao14 t107.length co14, .slice Ao16 t110.length co16] 25 (0, 0)) (by (with_reducible repeat (first | refine blk_drewN ?_ _ | refine blk_drew ?_ | refine blk_alloc ?_ _)); exact BK114.out) hb); have n6_ := Aside0.mk (below_step (by repeat (first | (with_reducible first | exact HB.out | apply below_alloc | apply pw_below_drewN | apply below_drew1 | refine below_set ?_ GE113.out | refine below_set ?_ GE114.out) | exact HB.out)) hb); clear HO_114000; clear HO_114001; clear HO_115000; clear HO_115001; clear BK113; clear BK114; clear HB; have HO_114000 := n0_; have HO_114001 := n1_; have HO_115000 := n2_; have HO_115001 := n3_; have BK113 := n4_; have BK114 := n5_; have HB := n6_; clear n0_ n1_ n2_ n3_ n4_ n5_ n6_; (try clear hb); (try clear hb2); (try clear hk); (try clear hi)) | (go_at_call 17; (with_reducible refine (imprimaturlaw06_wakes.calls kj5  t121 _ A48.out).mono ?_); rintro e w52 ⟨rfl, hb⟩; have n0_ := Aside0.mk (Kd.R_below (by (with_reducible repeat (first | apply Kd.R_alloc | apply Kd.R_drewN | apply Kd.R_drew)); exact HO_114000.out) hb); have n1_ := Aside0.mk (Kd.R_below (by (with_reducible repeat (first | apply Kd.R_alloc | apply Kd.R_drewN | apply Kd.R_drew)); exact HO_114001.out) hb); have n2_ := Aside0.mk (Kd.R_below (by (with_reducible repeat (first | apply Kd.R_alloc | apply Kd.R_drewN | apply Kd.R_drew)); exact HO_115000.out) hb); have n3_ := Aside0.mk (Kd.R_below (by (with_reducible repeat (first | apply Kd.R_alloc | apply Kd.R_drewN | apply Kd.R_drew)); exact HO_115001.out) hb); have n4_ := Aside0.mk (blk_below (g := gb113) (o := .cells #[.slice Ao10 t101.length co10, .slice Ao13 t104.length co13] 24 (0, 0)) (by (with_reducible repeat (first | refine blk_drewN ?_ _ | refine blk_drew ?_ | refine blk_alloc ?_ _)); exact BK113.out) hb); have n5_ := Aside0.mk (blk_below (g := gb114) (o := .cells #[.slice Ao14 t107.length co14, .slice Ao16 t110.length co16] 25 (0, 0)) (by (with_reducible repeat (first | refine blk_drewN ?_ _ | refine blk_drew ?_ | refine blk_alloc ?_ _)); exact BK114.out) hb); have n6_ := Aside0.mk (below_step (by repeat (first | (with_reducible first | exact HB.out | apply below_alloc | apply pw_below_drewN | apply below_drew1 | refine below_set ?_ GE113.out | refine below_set ?_ GE114.out) | exact HB.out)) hb); clear HO_114000; clear HO_114001; clear HO_115000; clear HO_115001; clear BK113; clear BK114; clear HB; have HO_114000 := n0_; have HO_114001 := n1_; have HO_115000 := n2_; have HO_115001 := n3_; have BK113 := n4_; have BK114 := n5_; have HB := n6_; clear n0_ n1_ n2_ n3_ n4_ n5_ n6_; (try clear hb); (try clear hb2); (try clear hk); (try clear hi)))
            go_ret
            exact ⟨by first | rfl | (simp [errW_none, errW_some] <;> rfl) | (simp only [← hji40, ← hji42]; first | rfl | (simp [errW_none, errW_some] <;> rfl)) | (simp [*, errW_none, errW_some] <;> rfl), by repeat (first | (with_reducible first | exact HB.out | apply below_alloc | apply pw_below_drewN | apply below_drew1 | refine below_set ?_ GE113.out | refine below_set ?_ GE114.out) | exact HB.out)⟩
        · rw [if_neg c41] at H
          exact absurd H (by simp)

/-- THE ONE PURE STATEMENT of imprimaturlaw06_ShapeConfigs: yours. -/
def imprimaturlaw06_ShapeConfigs.Pure : Prop := ∀ (l0 : List Int) (l1 : List Int) (a2 : Int), l0.length ≤ maxLen → l0.length * 8 ≤ 140737488351232 → (∀ x ∈ l0, (Lit.int .i64 x).wf = true) → l1.length ≤ maxLen → l1.length * 8 ≤ 140737488351232 → (∀ x ∈ l1, (Lit.int .i64 x).wf = true) → (Lit.int .i64 a2).wf = true → ∃ k, imprimaturlaw06_ShapeConfigs.f k l0 l1 a2 = some true
theorem imprimaturlaw06_ShapeConfigs.walk (P : imprimaturlaw06_ShapeConfigs.Pure) (a0 : Option Addr) (len0 cap0 : Nat) (z0 : List Int) (a1 : Option Addr) (len1 cap1 : Nat) (z1 : List Int) (a2 : Int) (w : World) (w0 : (a0 = none ∧ len0 = 0 ∧ cap0 = 0 ∧ z0 = []) ∨ ∃ x, a0 = some x ∧ len0 ≤ cap0 ∧ cap0 ≤ maxLen ∧ z0.length = cap0 ∧ (∀ i, i < z0.length → w.cell? (x.add i) = some (.int .i64 (z0.getD i 0))) ∧ ∀ n ∈ z0, (Lit.int .i64 n).wf = true) (y0 : len0 * 8 ≤ 140737488351232) (w1 : (a1 = none ∧ len1 = 0 ∧ cap1 = 0 ∧ z1 = []) ∨ ∃ x, a1 = some x ∧ len1 ≤ cap1 ∧ cap1 ≤ maxLen ∧ z1.length = cap1 ∧ (∀ i, i < z1.length → w.cell? (x.add i) = some (.int .i64 (z1.getD i 0))) ∧ ∀ n ∈ z1, (Lit.int .i64 n).wf = true) (y1 : len1 * 8 ≤ 140737488351232) (w2 : (Lit.int .i64 a2).wf = true) :
    Calls Try.prog 4 #[.slice a0 len0 cap0, .slice a1 len1 cap1, .int .i64 a2] w fun e w' => e = .returned (.bool true) ∧ Below w.heap.size w w' := by
  obtain ⟨l0, rfl, hr0, hm0, hw0, hc0⟩ := ReadsInt.ofRowC w0
  obtain ⟨l1, rfl, hr1, hm1, hw1, hc1⟩ := ReadsInt.ofRowC w1
  obtain ⟨k, h⟩ := P l0 l1 a2 hm0 y0 hw0 hm1 y1 hw1 w2
  refine (imprimaturlaw06_ShapeConfigs.calls k _ _ l0 _ _ l1 a2 true w (Kd.C_of_reads (d := (0 : Int)) (h1 := fun _ => rfl) hr0) hc0 (Kd.C_of_reads (d := (0 : Int)) (h1 := fun _ => rfl) hr1) hc1 h).mono ?_
  rintro e w' ⟨rfl, hd⟩
  exact ⟨rfl, hd⟩

end Go.Proofs.Ytnomeokicfpidaa.Q
-- printed by myprint.py: a program of this repo over the kit's print
namespace Go.Proofs.Ytnomeokicfpidaa.Q
open Go.RowKit Go.Proofs.YtnomeokicfpidaaW.PrintWords Go.Proofs.YtnomeokicfpidaaW.PrintLast Go.Proofs.YtnomeokicfpidaaW.PrintMore
attribute [local go_sem] max2_int min2_int max_two min_two max_three min_three max_four min_four   -- for this text's walks alone
set_option linter.unusedVariables false
set_option linter.unusedSimpArgs false

/-! ### shape_Initial: function 30 -/
def shape_Initial.l0 : Nat → List Int → Int → Int → List Int → List Int → Option (Int)
  | 0, _, _, _, _, _ => none
  | k + 1, x9, x10, x11, x102000, x102001 => if x11 < x10 then (if 0 ≤ x11 then (if x11 < (x9.length : Int) then (if 0 ≤ (rd x9 x11) then (if (rd x9 x11) < (x102000.length : Int) then ((shape_solid.f (rd x102000 (rd x9 x11))).bind fun t107 => (if t107 = true then (some (rd x9 x11)) else (shape_Initial.l0 k x9 x10 (wrap64 (x11 + 1)) x102000 x102001))) else (none)) else (none)) else (none)) else (none)) else (some (-1))
def shape_Initial.f (k : Nat) (l0_0 : List Int) (l0_1 : List Int) (a1 : Int) : Option (Int) := (shape_Kids.f k l0_0 l0_1 a1).bind fun t102 => (shape_Initial.l0 k t102 (t102.length : Int) 0 l0_0 l0_1)
theorem shape_Initial.mono_l : ∀ k, (∀ y0 y1 y2 y3 y4, LeO (shape_Initial.l0 k y0 y1 y2 y3 y4) (shape_Initial.l0 (k + 1) y0 y1 y2 y3 y4))
  | 0 => fun _ _ _ _ _ r h => by simp [shape_Initial.l0] at h
  | k + 1 => by
    have ih0 := shape_Initial.mono_l k
    · intro y0 y1 y2 y3 y4
      unfold shape_Initial.l0
      repeat' first
      | (with_reducible exact ih0 _ _ _ _ _)
      | (with_reducible exact shape_Kids.mono _ _ _ _)
      | (with_reducible exact LeO.refl _)
      | (with_reducible exact LeO.none _)
      | (with_reducible refine LeO.ite ?_ ?_)
      | (with_reducible refine LeO.bind ?_ (fun _ => ?_))
      | exact ih0 _ _ _ _ _
      | exact shape_Kids.mono _ _ _ _
      | exact LeO.none _
      | refine LeO.ite ?_ ?_
      | refine LeO.bind ?_ (fun _ => ?_)
theorem shape_Initial.mono : ∀ a0 a1 a2 k, LeO (shape_Initial.f k a0 a1 a2) (shape_Initial.f (k + 1) a0 a1 a2) := by
  intro a0 a1 a2 k
  have ih0 := shape_Initial.mono_l k
  unfold shape_Initial.f
  repeat' first
      | (with_reducible exact ih0 _ _ _ _ _)
      | (with_reducible exact shape_Kids.mono _ _ _ _)
      | (with_reducible exact LeO.refl _)
      | (with_reducible exact LeO.none _)
      | (with_reducible refine LeO.ite ?_ ?_)
      | (with_reducible refine LeO.bind ?_ (fun _ => ?_))
      | exact ih0 _ _ _ _ _
      | exact shape_Kids.mono _ _ _ _
      | exact LeO.none _
      | refine LeO.ite ?_ ?_
      | refine LeO.bind ?_ (fun _ => ?_)
set_option maxHeartbeats 8000000 in
set_option maxRecDepth 100000 in
theorem shape_Initial.calls (k : Nat) (A0_0 : Option Addr) (c0_0 : Nat) (l0_0 : List Int) (A0_1 : Option Addr) (c0_1 : Nat) (l0_1 : List Int) (a1 : Int) (r : Int) (w : World) (hr0_0 : Kd.C (Kd.int .i64) w A0_0 l0_0.length l0_0) (hc0_0 : l0_0.length ≤ c0_0) (hr0_1 : Kd.C (Kd.int .i64) w A0_1 l0_1.length l0_1) (hc0_1 : l0_1.length ≤ c0_1) (h : shape_Initial.f k l0_0 l0_1 a1 = some r) :
    Calls Try.prog 30 #[.agg #[.slice A0_0 l0_0.length c0_0, .slice A0_1 l0_1.length c0_1], .int .i64 a1] w fun e w' => e = .returned (.int .i64 r) ∧ Below w.heap.size w w' := by
  have hu24 := Try.underlying24
  have HR0_0 := Aside0.mk hr0_0
  have HC0_0 := Aside0.mk hc0_0
  clear hr0_0 hc0_0
  have HR0_1 := Aside0.mk hr0_1
  have HC0_1 := Aside0.mk hc0_1
  clear hr0_1 hc0_1
  have HB := Aside0.mk (Below.refl w.heap.size w)
  have H : ((shape_Kids.f k l0_0 l0_1 a1).bind fun t102 => (shape_Initial.l0 k t102 (t102.length : Int) 0 l0_0 l0_1)) = some r := h
  clear h
  replace H := Option.bind_eq_some_iff.mp H
  obtain ⟨t102, A30, H⟩ := H
  replace H : (shape_Initial.l0 k t102 (t102.length : Int) 0 l0_0 l0_1) = some r := H
  have A3 := Aside0.mk A30
  clear A30
  have H' := Aside0.mk H
  clear H
  go_enter Try.func30, Try.ntmps30
  go_wp2_with (first | ((with_reducible refine gate_dst (N := 2) rfl ?_); refine box_event ?hg (N := 2) ?hd (cs := #[.slice A0_0 l0_0.length c0_0, .slice A0_1 l0_1.length c0_1]) (t := 24) ?hr ?_; (case hd => rfl); (case hg => rfl); (case hr => first | (go_simp; done) | (go_simp; rfl)); intro gb101 hg w4 hbox hb; have n0_ := Aside0.mk (below_step (by repeat (first | (with_reducible first | exact HB.out | apply below_alloc | apply pw_below_drewN | apply below_drew1) | exact HB.out)) hb); have n1_ := Aside0.mk (hbox); have n2_ := Aside0.mk ((by rw [hg]; exact (below_size (by repeat (first | (with_reducible first | exact HB.out | apply below_alloc | apply pw_below_drewN | apply below_drew1) | exact HB.out))) : w.heap.size ≤ gb101)); have n3_ := Aside0.mk ((by rw [hg]; exact (below_size (by repeat (first | (with_reducible first | exact HB.out | apply below_alloc | apply pw_below_drewN | apply below_drew1) | exact HB.out))) : w.heap.size ≤ gb101)); clear HB; have HB := n0_; have BK101 := n1_; have GW101 := n2_; have GE101 := n3_; clear n0_ n1_ n2_ n3_; clear hb hbox hg; have hcz5_0 : w4.cell? ⟨gb101, 0, none⟩ = some (.slice A0_0 l0_0.length c0_0) := (blk_cell BK101.out 0).trans rfl; have hcz5_1 : w4.cell? ⟨gb101, 1, none⟩ = some (.slice A0_1 l0_1.length c0_1) := (blk_cell BK101.out 1).trans rfl; have hfz5_0 := blk_frozen BK101.out 0; have hfz5_1 := blk_frozen BK101.out 1) | ((with_reducible refine gate_callee (f := 25) rfl ?_); refine goesL_ (some 9) rfl rfl Try.func25 (by kernel_rfl) rfl #[.agg #[.slice A0_0 l0_0.length c0_0, .slice A0_1 l0_1.length c0_1], .int .i64 a1] rfl (by (try simp only [List.map_toArray, List.map_cons, List.map_nil]); first | done | rfl | (simp only [List.length_drop, List.length_take]; rfl)) ?_; (with_reducible refine (shape_Kids.calls k _ _ l0_0 _ _ l0_1 a1 t102 _ ?side1 ?side2 ?side3 ?side4 A3.out).mono ?_); (case side1 => repeat (first | exact (Kd.C_below HR0_0.out HB.out) | (with_reducible refine Kd.C_alloc ?_ _) | (with_reducible refine Kd.C_drewN ?_ _) | (with_reducible refine Kd.C_drew ?_))); (case side2 => exact HC0_0.out); (case side3 => repeat (first | exact (Kd.C_below HR0_1.out HB.out) | (with_reducible refine Kd.C_alloc ?_ _) | (with_reducible refine Kd.C_drewN ?_ _) | (with_reducible refine Kd.C_drew ?_))); (case side4 => exact HC0_1.out); rintro e w6 ⟨v103, rfl, ho0, hb⟩; refine ⟨_, rfl, ?_⟩; have n0_ := Aside0.mk (Kd.R_lower ho0 (below_size (by repeat (first | (with_reducible first | exact HB.out | apply below_alloc | apply pw_below_drewN | apply below_drew1 | refine below_set ?_ GE101.out) | exact HB.out)))); have n1_ := Aside0.mk (blk_below (g := gb101) (o := .cells #[.slice A0_0 l0_0.length c0_0, .slice A0_1 l0_1.length c0_1] 24 (0, 0)) (by (with_reducible repeat (first | refine blk_drewN ?_ _ | refine blk_drew ?_ | refine blk_alloc ?_ _)); exact BK101.out) hb); have n2_ := Aside0.mk (below_step (by repeat (first | (with_reducible first | exact HB.out | apply below_alloc | apply pw_below_drewN | apply below_drew1 | refine below_set ?_ GE101.out) | exact HB.out)) hb); clear BK101; clear HB; have HO104 := n0_; have BK101 := n1_; have HB := n2_; clear n0_ n1_ n2_; (try clear hb); (try clear hb2); (try clear hk); (try clear hi); (try clear ho0); obtain ⟨Ao7, co7, eo7⟩ := Kd.R_slice HO104.out; subst eo7))
  go_loopg [11] k (fun kq v11 w' => ∃ (x11_1 : Int), v11 = .int .i64 x11_1 ∧ Aside0 (shape_Initial.l0 kq t102 (t102.length : Int) x11_1 l0_0 l0_1 = some r) ∧ Aside0 (kq ≤ k) ∧ Aside0 (Kd.R (Kd.int .i64) 3 w' w.heap.size (fun _ => True) (.slice Ao7 t102.length co7) t102) ∧ Aside0 (w'.heap[gb101]? = some (.cells #[(.slice A0_0 l0_0.length c0_0), (.slice A0_1 l0_1.length c0_1)] 24 (0, 0))) ∧ Aside0 (Below w.heap.size w w'))
  case atStart => exact ⟨(0), (by first | rfl | (simp; done) | (simp [*]; done)), H', ⟨Nat.le_refl _⟩, ⟨by (with_reducible repeat (first | apply Kd.R_alloc | apply Kd.R_drewN | apply Kd.R_drew)); exact HO104.out⟩, ⟨by (with_reducible repeat (first | refine blk_drewN ?_ _ | refine blk_drew ?_ | refine blk_alloc ?_ _)); exact BK101.out⟩, ⟨by repeat (first | (with_reducible first | exact HB.out | apply below_alloc | apply pw_below_drewN | apply below_drew1 | refine below_set ?_ GE101.out) | exact HB.out)⟩⟩
  case round =>
    clear H'
    try clear c2
    try clear p2
    try clear c3
    try clear hcz5_0
    try clear hcz5_1
    try clear hfz5_0
    try clear hfz5_1
    obtain ⟨x11_1, rfl, HA, HK1, HO_9, BK101, HB⟩ := hrel
    cases gk with
    | zero => exact absurd HA.out (by simp [shape_Initial.l0])
    | succ k1 =>
      have H := HA.out
      clear HA
      simp only [shape_Initial.l0] at H
      by_cases c8 : x11_1 < (t102.length : Int)
      · rw [if_pos c8] at H
        have c8b0 : decide (x11_1 < (t102.length : Int)) = true := decide_eq_true c8
        clear c8
        by_cases c9 : 0 ≤ x11_1
        · rw [if_pos c9] at H
          have c9b0 : decide (0 ≤ x11_1) = true := decide_eq_true c9
          clear c9
          by_cases c10 : x11_1 < (t102.length : Int)
          · rw [if_pos c10] at H
            have c10b0 : decide (x11_1 < (t102.length : Int)) = true := decide_eq_true c10
            clear c10
            by_cases c11 : 0 ≤ (rd t102 x11_1)
            · rw [if_pos c11] at H
              have c11b0 : decide (0 ≤ (rd t102 x11_1)) = true := decide_eq_true c11
              clear c11
              by_cases c12 : (rd t102 x11_1) < (l0_0.length : Int)
              · rw [if_pos c12] at H
                have c12b0 : decide ((rd t102 x11_1) < (l0_0.length : Int)) = true := decide_eq_true c12
                clear c12
                replace H := Option.bind_eq_some_iff.mp H
                obtain ⟨t107, A130, H⟩ := H
                replace H : (if t107 = true then (some (rd t102 x11_1)) else (shape_Initial.l0 k1 t102 (t102.length : Int) (wrap64 (x11_1 + 1)) l0_0 l0_1)) = some r := H
                have A13 := Aside0.mk A130
                clear A130
                by_cases c14 : t107 = true
                · subst c14
                  have H1 : (some (rd t102 x11_1)) = some r := by rw [if_pos rfl] at H; exact H
                  clear H
                  have H := H1
                  clear H1
                  obtain rfl := Option.some.inj H
                  have p105 : 0 ≤ (x11_1 : Int) := of_decide_eq_true (by first | (with_reducible assumption) | assumption)
                  have q105 : x11_1 < (t102.length : Int) := of_decide_eq_true (by first | (with_reducible assumption) | assumption)
                  obtain ⟨ad105, e105, hx105_0⟩ := Kd.at_int (Kd.R_reads' HO_9.out).2.2 x11_1 p105 q105
                  cases e105
                  replace p105 := eq_true p105
                  replace q105 := eq_true q105
                  have hcz15_0 : wr.cell? ⟨gb101, 0, none⟩ = some (.slice A0_0 l0_0.length c0_0) := (blk_cell BK101.out 0).trans rfl
                  have hcz15_1 : wr.cell? ⟨gb101, 1, none⟩ = some (.slice A0_1 l0_1.length c0_1) := (blk_cell BK101.out 1).trans rfl
                  have hfz15_0 := blk_frozen BK101.out 0
                  have hfz15_1 := blk_frozen BK101.out 1
                  have p106 : 0 ≤ ((rd t102 x11_1) : Int) := of_decide_eq_true (by first | (with_reducible assumption) | assumption)
                  have q106 : (rd t102 x11_1) < (l0_0.length : Int) := of_decide_eq_true (by first | (with_reducible assumption) | assumption)
                  obtain ⟨ad106, e106, hx106_0⟩ := Kd.at_int HR0_0.out (rd t102 x11_1) p106 q106
                  cases e106
                  replace hx106_0 := (HB.out.cell (World.block_lt_of_cell? w _ hx106_0)).trans hx106_0
                  replace p106 := eq_true p106
                  replace q106 := eq_true q106
                  go_wp2_with (first | ((with_reducible refine gate_callee (f := 45) rfl ?_); refine goesL_ (some 20) rfl rfl Try.func45 (by kernel_rfl) rfl #[.int .i64 (rd l0_0 (rd t102 x11_1))] rfl (by (try simp only [List.map_toArray, List.map_cons, List.map_nil]); first | done | rfl | (simp only [List.length_drop, List.length_take]; rfl)) ?_; (with_reducible refine (shape_solid.calls (rd l0_0 (rd t102 x11_1)) true _ A13.out).mono ?_); rintro e w' ⟨rfl, ⟨nd, rfl⟩⟩; refine ⟨_, rfl, ?_⟩))
                  go_ret
                  exact ⟨by first | rfl | (simp [errW_none, errW_some] <;> rfl) | (simp [*, errW_none, errW_some] <;> rfl), by repeat (first | (with_reducible first | exact HB.out | apply below_alloc | apply pw_below_drewN | apply below_drew1 | refine below_set ?_ GE101.out) | exact HB.out)⟩
                · replace c14 := Bool.eq_false_iff.mpr c14
                  subst c14
                  have H1 : (shape_Initial.l0 k1 t102 (t102.length : Int) (wrap64 (x11_1 + 1)) l0_0 l0_1) = some r := by rw [if_neg (show ¬ (false = true) by decide)] at H; exact H
                  clear H
                  have H := H1
                  clear H1
                  have H' := Aside0.mk H
                  clear H
                  have p105 : 0 ≤ (x11_1 : Int) := of_decide_eq_true (by first | (with_reducible assumption) | assumption)
                  have q105 : x11_1 < (t102.length : Int) := of_decide_eq_true (by first | (with_reducible assumption) | assumption)
                  obtain ⟨ad105, e105, hx105_0⟩ := Kd.at_int (Kd.R_reads' HO_9.out).2.2 x11_1 p105 q105
                  cases e105
                  replace p105 := eq_true p105
                  replace q105 := eq_true q105
                  have hcz16_0 : wr.cell? ⟨gb101, 0, none⟩ = some (.slice A0_0 l0_0.length c0_0) := (blk_cell BK101.out 0).trans rfl
                  have hcz16_1 : wr.cell? ⟨gb101, 1, none⟩ = some (.slice A0_1 l0_1.length c0_1) := (blk_cell BK101.out 1).trans rfl
                  have hfz16_0 := blk_frozen BK101.out 0
                  have hfz16_1 := blk_frozen BK101.out 1
                  have p106 : 0 ≤ ((rd t102 x11_1) : Int) := of_decide_eq_true (by first | (with_reducible assumption) | assumption)
                  have q106 : (rd t102 x11_1) < (l0_0.length : Int) := of_decide_eq_true (by first | (with_reducible assumption) | assumption)
                  obtain ⟨ad106, e106, hx106_0⟩ := Kd.at_int HR0_0.out (rd t102 x11_1) p106 q106
                  cases e106
                  replace hx106_0 := (HB.out.cell (World.block_lt_of_cell? w _ hx106_0)).trans hx106_0
                  replace p106 := eq_true p106
                  replace q106 := eq_true q106
                  go_wp2_with (first | ((with_reducible refine gate_callee (f := 45) rfl ?_); refine goesL_ (some 20) rfl rfl Try.func45 (by kernel_rfl) rfl #[.int .i64 (rd l0_0 (rd t102 x11_1))] rfl (by (try simp only [List.map_toArray, List.map_cons, List.map_nil]); first | done | rfl | (simp only [List.length_drop, List.length_take]; rfl)) ?_; (with_reducible refine (shape_solid.calls (rd l0_0 (rd t102 x11_1)) false _ A13.out).mono ?_); rintro e w' ⟨rfl, ⟨nd, rfl⟩⟩; refine ⟨_, rfl, ?_⟩))
                  go_roundg k1
                  case measure => have := HK1.out; omega
                  case rel => exact ⟨(wrap64 (x11_1 + 1)), (by first | rfl | (simp; done) | (simp [*]; done)), H', ⟨by have := HK1.out; omega⟩, ⟨by (with_reducible repeat (first | apply Kd.R_alloc | apply Kd.R_drewN | apply Kd.R_drew)); exact HO_9.out⟩, ⟨by (with_reducible repeat (first | refine blk_drewN ?_ _ | refine blk_drew ?_ | refine blk_alloc ?_ _)); exact BK101.out⟩, ⟨by repeat (first | (with_reducible first | exact HB.out | apply below_alloc | apply pw_below_drewN | apply below_drew1 | refine below_set ?_ GE101.out) | exact HB.out)⟩⟩
              · rw [if_neg c12] at H
                exact absurd H (by simp)
            · rw [if_neg c11] at H
              exact absurd H (by simp)
          · rw [if_neg c10] at H
            exact absurd H (by simp)
        · rw [if_neg c9] at H
          exact absurd H (by simp)
      · rw [if_neg c8] at H
        have c8b0 : decide (x11_1 < (t102.length : Int)) = false := decide_eq_false c8
        clear c8
        obtain rfl := Option.some.inj H
        go_wp2
        go_ret
        exact ⟨by first | rfl | (simp [errW_none, errW_some] <;> rfl) | (simp [*, errW_none, errW_some] <;> rfl), by repeat (first | (with_reducible first | exact HB.out | apply below_alloc | apply pw_below_drewN | apply below_drew1 | refine below_set ?_ GE101.out) | exact HB.out)⟩

end Go.Proofs.Ytnomeokicfpidaa.Q
