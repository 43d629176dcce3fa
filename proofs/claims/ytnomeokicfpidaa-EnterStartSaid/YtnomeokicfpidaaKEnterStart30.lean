-- merged by pack.py out of: YtnomeokicfpidaaQx34
import Derived.Test.YtnomeokicfpidaaKEnterStart24
import Derived.Test.YtnomeokicfpidaaKEnterStart25
import Derived.Test.YtnomeokicfpidaaKEnterStart26
import Derived.Test.YtnomeokicfpidaaKEnterStart29
-- printed by myprint.py: a program of this repo over the kit's print
namespace Go.Proofs.Ytnomeokicfpidaa.Q
open Go.RowKit Go.Proofs.YtnomeokicfpidaaW.PrintWords Go.Proofs.YtnomeokicfpidaaW.PrintLast Go.Proofs.YtnomeokicfpidaaW.PrintMore
attribute [local go_sem] max2_int min2_int max_two min_two max_three min_three max_four min_four   -- for this text's walks alone
set_option linter.unusedVariables false
set_option linter.unusedSimpArgs false

/-! ### imprimaturlaw07_EnterStart: function 8 -/
mutual
def imprimaturlaw07_EnterStart.j0 : Nat → Int → Bool → List Int → List Int → Option (Bool)
  | 0, _, _, _, _ => none
  | k + 1, x6, x33, x114000, x114001 => if x33 = true then (some false) else (imprimaturlaw07_EnterStart.l0 k x6 (x114000.length : Int) 0 x114000 x114001)
def imprimaturlaw07_EnterStart.l0 : Nat → Int → Int → Int → List Int → List Int → Option (Bool)
  | 0, _, _, _, _, _ => none
  | k + 1, x6, x36, x37, x114000, x114001 => if x37 < x36 then (if 0 ≤ (IntKind.u64.wrap (x37)) then (if (Go.bits .and .u32 (shr .u32 x6 (IntKind.u64.wrap (x37))) 1) = 1 then (if 0 ≤ x37 then (if x37 < (x114000.length : Int) then (if (rd x114000 x37) = 1 then ((shape_Kids.f k x114000 x114001 x37).bind fun t124 => (if (t124.length : Int) > 0 then ((shape_Initial.f k x114000 x114001 x37).bind fun t127 => (if 0 ≤ (IntKind.u64.wrap (t127)) then (if (Go.bits .and .u32 (shr .u32 x6 (IntKind.u64.wrap (t127))) 1) = 0 then (some false) else (imprimaturlaw07_EnterStart.l0 k x6 x36 (wrap64 (x37 + 1)) x114000 x114001)) else (none))) else (imprimaturlaw07_EnterStart.l0 k x6 x36 (wrap64 (x37 + 1)) x114000 x114001))) else (imprimaturlaw07_EnterStart.l0 k x6 x36 (wrap64 (x37 + 1)) x114000 x114001)) else (none)) else (none)) else (imprimaturlaw07_EnterStart.l0 k x6 x36 (wrap64 (x37 + 1)) x114000 x114001)) else (none)) else ((imprimaturlaw07_wakes.f k).bind fun t122 => (some t122))
end
def imprimaturlaw07_EnterStart.f (k : Nat) (l0 : List Int) : Option (Bool) := (imprimaturlaw06_Of.f k l0).bind fun bt101 => ((enter_Start.f bt101.1 bt101.2.1).bind fun t115 => ((imprimaturlaw07_bits.f k t115).bind fun t118 => ((shape_Proper.f k bt101.1 bt101.2.1 t118).bind fun t119 => (if t119 = true then (if (t115.length : Int) = 0 then (imprimaturlaw07_EnterStart.j0 k t118 true bt101.1 bt101.2.1) else (if 0 < (t115.length : Int) then ((shape_Initial.f k bt101.1 bt101.2.1 (-1)).bind fun t121 => (imprimaturlaw07_EnterStart.j0 k t118 ((rd t115 0) != t121) bt101.1 bt101.2.1)) else (none))) else (imprimaturlaw07_EnterStart.j0 k t118 true bt101.1 bt101.2.1)))))
theorem imprimaturlaw07_EnterStart.mono_l : ∀ k, (∀ y0 y1 y2 y3, LeO (imprimaturlaw07_EnterStart.j0 k y0 y1 y2 y3) (imprimaturlaw07_EnterStart.j0 (k + 1) y0 y1 y2 y3)) ∧ (∀ y0 y1 y2 y3 y4, LeO (imprimaturlaw07_EnterStart.l0 k y0 y1 y2 y3 y4) (imprimaturlaw07_EnterStart.l0 (k + 1) y0 y1 y2 y3 y4))
  | 0 => ⟨fun _ _ _ _ r h => by simp [imprimaturlaw07_EnterStart.j0] at h, fun _ _ _ _ _ r h => by simp [imprimaturlaw07_EnterStart.l0] at h⟩
  | k + 1 => by
    obtain ⟨ih0, ih1⟩ := imprimaturlaw07_EnterStart.mono_l k
    refine ⟨?_, ?_⟩
    · intro y0 y1 y2 y3
      unfold imprimaturlaw07_EnterStart.j0
      repeat' first
      | (with_reducible exact ih0 _ _ _ _)
      | (with_reducible exact ih1 _ _ _ _ _)
      | (with_reducible exact imprimaturlaw06_Of.mono _ _)
      | (with_reducible exact imprimaturlaw07_bits.mono _ _)
      | (with_reducible exact imprimaturlaw07_wakes.mono _)
      | (with_reducible exact shape_Initial.mono _ _ _ _)
      | (with_reducible exact shape_Kids.mono _ _ _ _)
      | (with_reducible exact shape_Proper.mono _ _ _ _)
      | (with_reducible exact LeO.refl _)
      | (with_reducible exact LeO.none _)
      | (with_reducible refine LeO.ite ?_ ?_)
      | (with_reducible refine LeO.bind ?_ (fun _ => ?_))
      | exact ih0 _ _ _ _
      | exact ih1 _ _ _ _ _
      | exact imprimaturlaw06_Of.mono _ _
      | exact imprimaturlaw07_bits.mono _ _
      | exact imprimaturlaw07_wakes.mono _
      | exact shape_Initial.mono _ _ _ _
      | exact shape_Kids.mono _ _ _ _
      | exact shape_Proper.mono _ _ _ _
      | exact LeO.none _
      | refine LeO.ite ?_ ?_
      | refine LeO.bind ?_ (fun _ => ?_)
    · intro y0 y1 y2 y3 y4
      unfold imprimaturlaw07_EnterStart.l0
      repeat' first
      | (with_reducible exact ih0 _ _ _ _)
      | (with_reducible exact ih1 _ _ _ _ _)
      | (with_reducible exact imprimaturlaw06_Of.mono _ _)
      | (with_reducible exact imprimaturlaw07_bits.mono _ _)
      | (with_reducible exact imprimaturlaw07_wakes.mono _)
      | (with_reducible exact shape_Initial.mono _ _ _ _)
      | (with_reducible exact shape_Kids.mono _ _ _ _)
      | (with_reducible exact shape_Proper.mono _ _ _ _)
      | (with_reducible exact LeO.refl _)
      | (with_reducible exact LeO.none _)
      | (with_reducible refine LeO.ite ?_ ?_)
      | (with_reducible refine LeO.bind ?_ (fun _ => ?_))
      | exact ih0 _ _ _ _
      | exact ih1 _ _ _ _ _
      | exact imprimaturlaw06_Of.mono _ _
      | exact imprimaturlaw07_bits.mono _ _
      | exact imprimaturlaw07_wakes.mono _
      | exact shape_Initial.mono _ _ _ _
      | exact shape_Kids.mono _ _ _ _
      | exact shape_Proper.mono _ _ _ _
      | exact LeO.none _
      | refine LeO.ite ?_ ?_
      | refine LeO.bind ?_ (fun _ => ?_)
theorem imprimaturlaw07_EnterStart.mono : ∀ a0 k, LeO (imprimaturlaw07_EnterStart.f k a0) (imprimaturlaw07_EnterStart.f (k + 1) a0) := by
  intro a0 k
  obtain ⟨ih0, ih1⟩ := imprimaturlaw07_EnterStart.mono_l k
  unfold imprimaturlaw07_EnterStart.f
  repeat' first
      | (with_reducible exact ih0 _ _ _ _)
      | (with_reducible exact ih1 _ _ _ _ _)
      | (with_reducible exact imprimaturlaw06_Of.mono _ _)
      | (with_reducible exact imprimaturlaw07_bits.mono _ _)
      | (with_reducible exact imprimaturlaw07_wakes.mono _)
      | (with_reducible exact shape_Initial.mono _ _ _ _)
      | (with_reducible exact shape_Kids.mono _ _ _ _)
      | (with_reducible exact shape_Proper.mono _ _ _ _)
      | (with_reducible exact LeO.refl _)
      | (with_reducible exact LeO.none _)
      | (with_reducible refine LeO.ite ?_ ?_)
      | (with_reducible refine LeO.bind ?_ (fun _ => ?_))
      | exact ih0 _ _ _ _
      | exact ih1 _ _ _ _ _
      | exact imprimaturlaw06_Of.mono _ _
      | exact imprimaturlaw07_bits.mono _ _
      | exact imprimaturlaw07_wakes.mono _
      | exact shape_Initial.mono _ _ _ _
      | exact shape_Kids.mono _ _ _ _
      | exact shape_Proper.mono _ _ _ _
      | exact LeO.none _
      | refine LeO.ite ?_ ?_
      | refine LeO.bind ?_ (fun _ => ?_)
def imprimaturlaw07_EnterStart.T4 : Bool × List (List Nat × List Nat) := (true, [([], []), ([], []), ([0, 1], [0, 1]), ([2], [2]), ([3, 2], [3]), ([4], [4]), ([5, 4], [4, 5]), ([6, 4], [4, 6]), ([4, 7], [4, 7]), ([8, 4], [8]), ([9], [9]), ([10, 9], [9, 10]), ([11, 9], [9, 11]), ([9], [9]), ([13, 9, 9], [9, 13]), ([12, 14, 9], [9, 12, 14]), ([9, 15], [9, 15])])
def imprimaturlaw07_EnterStart.B4 : List Nat := [0, 0, 3, 7, 15, 31, 63, 127, 255, 511, 1023, 2047, 4095, 1023, 9215, 32767, 65535]
theorem imprimaturlaw07_EnterStart.tab4 : rtab .any (opsOf Try.f8 4) = imprimaturlaw07_EnterStart.T4 := by kernel_rfl
theorem imprimaturlaw07_EnterStart.bits4 : waitsOk imprimaturlaw07_EnterStart.T4.2 imprimaturlaw07_EnterStart.B4 = true := by kernel_rfl
set_option maxHeartbeats 8000000 in
set_option maxRecDepth 100000 in
theorem imprimaturlaw07_EnterStart.calls (k : Nat) (A0 : Option Addr) (c0 : Nat) (l0 : List Int) (r : Bool) (w : World) (hr0 : Kd.C (Kd.int .i64) w A0 l0.length l0) (hc0 : l0.length ≤ c0) (h : imprimaturlaw07_EnterStart.f k l0 = some r) :
    Calls Try.prog 8 #[.slice A0 l0.length c0] w fun e w' => e = .returned (.bool r) ∧ Below w.heap.size w w' := by
  have hu24 := Try.underlying24
  have hu25 := Try.underlying25
  have HR0 := Aside0.mk hr0
  have HC0 := Aside0.mk hc0
  clear hr0 hc0
  have HB := Aside0.mk (Below.refl w.heap.size w)
  have H : ((imprimaturlaw06_Of.f k l0).bind fun bt101 => ((enter_Start.f bt101.1 bt101.2.1).bind fun t115 => ((imprimaturlaw07_bits.f k t115).bind fun t118 => ((shape_Proper.f k bt101.1 bt101.2.1 t118).bind fun t119 => (if t119 = true then (if (t115.length : Int) = 0 then (imprimaturlaw07_EnterStart.j0 k t118 true bt101.1 bt101.2.1) else (if 0 < (t115.length : Int) then ((shape_Initial.f k bt101.1 bt101.2.1 (-1)).bind fun t121 => (imprimaturlaw07_EnterStart.j0 k t118 ((rd t115 0) != t121) bt101.1 bt101.2.1)) else (none))) else (imprimaturlaw07_EnterStart.j0 k t118 true bt101.1 bt101.2.1)))))) = some r := h
  clear h
  replace H := Option.bind_eq_some_iff.mp H
  obtain ⟨⟨t101, t104, t107, t110⟩, A20, H⟩ := H
  replace H : ((enter_Start.f t101 t104).bind fun t115 => ((imprimaturlaw07_bits.f k t115).bind fun t118 => ((shape_Proper.f k t101 t104 t118).bind fun t119 => (if t119 = true then (if (t115.length : Int) = 0 then (imprimaturlaw07_EnterStart.j0 k t118 true t101 t104) else (if 0 < (t115.length : Int) then ((shape_Initial.f k t101 t104 (-1)).bind fun t121 => (imprimaturlaw07_EnterStart.j0 k t118 ((rd t115 0) != t121) t101 t104)) else (none))) else (imprimaturlaw07_EnterStart.j0 k t118 true t101 t104))))) = some r := H
  have A2 := Aside0.mk A20
  clear A20
  replace H := Option.bind_eq_some_iff.mp H
  obtain ⟨t115, A30, H⟩ := H
  replace H : ((imprimaturlaw07_bits.f k t115).bind fun t118 => ((shape_Proper.f k t101 t104 t118).bind fun t119 => (if t119 = true then (if (t115.length : Int) = 0 then (imprimaturlaw07_EnterStart.j0 k t118 true t101 t104) else (if 0 < (t115.length : Int) then ((shape_Initial.f k t101 t104 (-1)).bind fun t121 => (imprimaturlaw07_EnterStart.j0 k t118 ((rd t115 0) != t121) t101 t104)) else (none))) else (imprimaturlaw07_EnterStart.j0 k t118 true t101 t104)))) = some r := H
  have A3 := Aside0.mk A30
  clear A30
  replace H := Option.bind_eq_some_iff.mp H
  obtain ⟨t118, A40, H⟩ := H
  replace H : ((shape_Proper.f k t101 t104 t118).bind fun t119 => (if t119 = true then (if (t115.length : Int) = 0 then (imprimaturlaw07_EnterStart.j0 k t118 true t101 t104) else (if 0 < (t115.length : Int) then ((shape_Initial.f k t101 t104 (-1)).bind fun t121 => (imprimaturlaw07_EnterStart.j0 k t118 ((rd t115 0) != t121) t101 t104)) else (none))) else (imprimaturlaw07_EnterStart.j0 k t118 true t101 t104))) = some r := H
  have A4 := Aside0.mk A40
  clear A40
  have HC5 := Aside0.mk H
  clear H
  go_enter Try.func8, Try.ntmps8
  go_upto_region 4 with (first | ((with_reducible refine gate_callee (f := 13) rfl ?_); refine goesL_ (some 10) rfl rfl Try.func13 (by kernel_rfl) rfl #[.slice A0 l0.length c0] rfl (by (try simp only [List.map_toArray, List.map_cons, List.map_nil]); first | done | rfl | (simp only [List.length_drop, List.length_take]; rfl)) ?_; (with_reducible refine (imprimaturlaw06_Of.calls k _ _ l0 t101 t104 t107 t110 _ ?side1 ?side2 A2.out).mono ?_); (case side1 => repeat (first | exact HR0.out | (with_reducible refine Kd.C_alloc ?_ _) | (with_reducible refine Kd.C_drewN ?_ _) | (with_reducible refine Kd.C_drew ?_))); (case side2 => exact HC0.out); rintro e w6 ⟨v102, v105, v108, v111, rfl, ho0, ho1, ho2, ho3, hb⟩; refine ⟨_, rfl, ?_⟩; have n0_ := Aside0.mk (Kd.R_lower ho0 (below_size (by repeat (first | (with_reducible first | exact HB.out | apply below_alloc | apply pw_below_drewN | apply below_drew1) | exact HB.out)))); have n1_ := Aside0.mk (Kd.R_lower ho1 (below_size (by repeat (first | (with_reducible first | exact HB.out | apply below_alloc | apply pw_below_drewN | apply below_drew1) | exact HB.out)))); have n2_ := Aside0.mk (Kd.R_lower ho2 (below_size (by repeat (first | (with_reducible first | exact HB.out | apply below_alloc | apply pw_below_drewN | apply below_drew1) | exact HB.out)))); have n3_ := Aside0.mk (Kd.R_lower ho3 (below_size (by repeat (first | (with_reducible first | exact HB.out | apply below_alloc | apply pw_below_drewN | apply below_drew1) | exact HB.out)))); have n4_ := Aside0.mk (below_step (by repeat (first | (with_reducible first | exact HB.out | apply below_alloc | apply pw_below_drewN | apply below_drew1) | exact HB.out)) hb); clear HB; have HO103 := n0_; have HO106 := n1_; have HO109 := n2_; have HO112 := n3_; have HB := n4_; clear n0_ n1_ n2_ n3_ n4_; (try clear hb); (try clear hb2); (try clear hk); (try clear hi); (try clear ho0); (try clear ho1); (try clear ho2); (try clear ho3)) | ((with_reducible refine gate_dst (N := 3) rfl ?_); (try (refine gate_guard (by rfl) ?_; dsimp only)); refine box_event ?hg (N := 3) ?hd (cs := #[.slice none 0 0, .slice none 0 0]) (t := 24) ?hr ?_; (case hd => rfl); (case hg => rfl); (case hr => first | (go_simp; done) | (go_simp; rfl)); intro gb113 hg w7 hbox hb; have n0_ := Aside0.mk (Kd.R_below (by (with_reducible repeat (first | apply Kd.R_alloc | apply Kd.R_drewN | apply Kd.R_drew)); exact HO103.out) hb); have n1_ := Aside0.mk (Kd.R_below (by (with_reducible repeat (first | apply Kd.R_alloc | apply Kd.R_drewN | apply Kd.R_drew)); exact HO106.out) hb); have n2_ := Aside0.mk (Kd.R_below (by (with_reducible repeat (first | apply Kd.R_alloc | apply Kd.R_drewN | apply Kd.R_drew)); exact HO109.out) hb); have n3_ := Aside0.mk (Kd.R_below (by (with_reducible repeat (first | apply Kd.R_alloc | apply Kd.R_drewN | apply Kd.R_drew)); exact HO112.out) hb); have n4_ := Aside0.mk (below_step (by repeat (first | (with_reducible first | exact HB.out | apply below_alloc | apply pw_below_drewN | apply below_drew1) | exact HB.out)) hb); have n5_ := Aside0.mk (hbox); have n6_ := Aside0.mk ((by rw [hg]; exact (below_size (by repeat (first | (with_reducible first | exact HB.out | apply below_alloc | apply pw_below_drewN | apply below_drew1) | exact HB.out))) : w.heap.size ≤ gb113)); have n7_ := Aside0.mk ((by rw [hg]; exact (below_size (by repeat (first | (with_reducible first | exact HB.out | apply below_alloc | apply pw_below_drewN | apply below_drew1) | exact HB.out))) : w.heap.size ≤ gb113)); clear HO103; clear HO106; clear HO109; clear HO112; clear HB; have HO103 := n0_; have HO106 := n1_; have HO109 := n2_; have HO112 := n3_; have HB := n4_; have BK113 := n5_; have GW113 := n6_; have GE113 := n7_; clear n0_ n1_ n2_ n3_ n4_ n5_ n6_ n7_; clear hb hbox hg) | ((with_reducible refine gate_dst (N := 4) rfl ?_); (try (refine gate_guard (by rfl) ?_; dsimp only)); refine box_event ?hg (N := 4) ?hd (cs := #[.slice none 0 0, .slice none 0 0]) (t := 25) ?hr ?_; (case hd => rfl); (case hg => rfl); (case hr => first | (go_simp; done) | (go_simp; rfl)); intro gb114 hg w8 hbox hb; have n0_ := Aside0.mk (Kd.R_below (by (with_reducible repeat (first | apply Kd.R_alloc | apply Kd.R_drewN | apply Kd.R_drew)); exact HO103.out) hb); have n1_ := Aside0.mk (Kd.R_below (by (with_reducible repeat (first | apply Kd.R_alloc | apply Kd.R_drewN | apply Kd.R_drew)); exact HO106.out) hb); have n2_ := Aside0.mk (Kd.R_below (by (with_reducible repeat (first | apply Kd.R_alloc | apply Kd.R_drewN | apply Kd.R_drew)); exact HO109.out) hb); have n3_ := Aside0.mk (Kd.R_below (by (with_reducible repeat (first | apply Kd.R_alloc | apply Kd.R_drewN | apply Kd.R_drew)); exact HO112.out) hb); have n4_ := Aside0.mk (blk_below (g := gb113) (o := .cells #[.slice none 0 0, .slice none 0 0] 24 (0, 0)) (by (with_reducible repeat (first | refine blk_drewN ?_ _ | refine blk_drew ?_ | refine blk_alloc ?_ _)); exact BK113.out) hb); have n5_ := Aside0.mk (below_step (by repeat (first | (with_reducible first | exact HB.out | apply below_alloc | apply pw_below_drewN | apply below_drew1 | refine below_set ?_ GE113.out) | exact HB.out)) hb); have n6_ := Aside0.mk (hbox); have n7_ := Aside0.mk ((by rw [hg]; exact (below_size (by repeat (first | (with_reducible first | exact HB.out | apply below_alloc | apply pw_below_drewN | apply below_drew1 | refine below_set ?_ GE113.out) | exact HB.out))) : w.heap.size ≤ gb114)); have n8_ := Aside0.mk ((by rw [hg]; exact (below_size (by repeat (first | (with_reducible first | exact HB.out | apply below_alloc | apply pw_below_drewN | apply below_drew1 | refine below_set ?_ GE113.out) | exact HB.out))) : w.heap.size ≤ gb114)); have n9_ := Aside0.mk ((by rw [hg]; exact Nat.ne_of_lt (blk_lt (g := gb113) (o := .cells #[.slice none 0 0, .slice none 0 0] 24 (0, 0)) (by (with_reducible repeat (first | refine blk_drewN ?_ _ | refine blk_drew ?_ | refine blk_alloc ?_ _)); exact BK113.out)) : gb113 ≠ gb114)); have n10_ := Aside0.mk ((by rw [hg]; exact Nat.ne_of_gt (blk_lt (g := gb113) (o := .cells #[.slice none 0 0, .slice none 0 0] 24 (0, 0)) (by (with_reducible repeat (first | refine blk_drewN ?_ _ | refine blk_drew ?_ | refine blk_alloc ?_ _)); exact BK113.out)) : gb114 ≠ gb113)); clear HO103; clear HO106; clear HO109; clear HO112; clear BK113; clear HB; have HO103 := n0_; have HO106 := n1_; have HO109 := n2_; have HO112 := n3_; have BK113 := n4_; have HB := n5_; have BK114 := n6_; have GW114 := n7_; have GE114 := n8_; have NB113_114 := n9_; have NB114_113 := n10_; clear n0_ n1_ n2_ n3_ n4_ n5_ n6_ n7_ n8_ n9_ n10_; clear hb hbox hg; obtain ⟨Ao9, co9, eo9⟩ := Kd.R_slice HO103.out; subst eo9; have hnb10 := NB113_114.out; have hnc10 := NB114_113.out; have hcz11_0 : w8.cell? ⟨gb113, 0, none⟩ = some (.slice none 0 0) := (blk_cell BK113.out 0).trans rfl; have hcz11_1 : w8.cell? ⟨gb113, 1, none⟩ = some (.slice none 0 0) := (blk_cell BK113.out 1).trans rfl; have hfz11_0 := blk_frozen BK113.out 0; have hfz11_1 := blk_frozen BK113.out 1; obtain ⟨Ao12, co12, eo12⟩ := Kd.R_slice HO106.out; subst eo12; obtain ⟨Ao13, co13, eo13⟩ := Kd.R_slice HO109.out; subst eo13; have hcz14_0 : w8.cell? ⟨gb114, 0, none⟩ = some (.slice none 0 0) := (blk_cell BK114.out 0).trans rfl; have hcz14_1 : w8.cell? ⟨gb114, 1, none⟩ = some (.slice none 0 0) := (blk_cell BK114.out 1).trans rfl; have hfz14_0 := blk_frozen BK114.out 0; have hfz14_1 := blk_frozen BK114.out 1; obtain ⟨Ao15, co15, eo15⟩ := Kd.R_slice HO112.out; subst eo15) | ((with_reducible refine gate_callee (f := 29) rfl ?_); refine goesL_ (some 14) rfl rfl Try.func29 (by kernel_rfl) rfl #[.agg #[.slice Ao9 t101.length co9, .slice Ao12 t104.length co12]] rfl (by (try simp only [List.map_toArray, List.map_cons, List.map_nil]); first | done | rfl | (simp only [List.length_drop, List.length_take]; rfl)) ?_; (with_reducible refine (enter_Start.calls _ _ t101 _ _ t104 t115 _ ?side1 ?side2 ?side3 ?side4 A3.out).mono ?_); (case side1 => refine (Kd.R_reads' (e := 3) (base := w.heap.size) (ok := fun k_ => (some k_ ≠ (.slice Ao12 t104.length co12 : Value).ownBlock ∧ (some k_ ≠ (.slice Ao13 t107.length co13 : Value).ownBlock ∧ some k_ ≠ (.slice Ao15 t110.length co15 : Value).ownBlock))) (n := t101.length) (c := co9) ?_).2.2; exact (by (with_reducible repeat (first | apply Kd.R_alloc | apply Kd.R_drewN | apply Kd.R_drew)); exact (Kd.R_mono (Kd.R_mono (Kd.R_far (p := ⟨gb114, 1, none⟩) (Kd.R_far (p := ⟨gb114, 0, none⟩) (Kd.R_far (p := ⟨gb113, 1, none⟩) (Kd.R_far (p := ⟨gb113, 0, none⟩) (Kd.R_types (Kd.R_types HO103.out BK113.out (by decide)) BK114.out (by decide)) (fun _ hk => hk.1.2) (.slice Ao9 t101.length co9)) (fun _ hk => hk.1.2) (.slice Ao12 t104.length co12)) (fun _ hk => hk.2) (.slice Ao13 t107.length co13)) (fun _ hk => hk.2) (.slice Ao15 t110.length co15)) (fun _ h_ => h_.1)) (fun _ h_ => h_.1)))); (case side2 => exact (Kd.R_reads' HO103.out).2.1); (case side3 => refine (Kd.R_reads' (e := 3) (base := w.heap.size) (ok := fun k_ => (some k_ ≠ (.slice Ao9 t101.length co9 : Value).ownBlock ∧ (some k_ ≠ (.slice Ao13 t107.length co13 : Value).ownBlock ∧ some k_ ≠ (.slice Ao15 t110.length co15 : Value).ownBlock))) (n := t104.length) (c := co12) ?_).2.2; exact (by (with_reducible repeat (first | apply Kd.R_alloc | apply Kd.R_drewN | apply Kd.R_drew)); exact (Kd.R_mono (Kd.R_mono (Kd.R_far (p := ⟨gb114, 1, none⟩) (Kd.R_far (p := ⟨gb114, 0, none⟩) (Kd.R_far (p := ⟨gb113, 1, none⟩) (Kd.R_far (p := ⟨gb113, 0, none⟩) (Kd.R_types (Kd.R_types HO106.out BK113.out (by decide)) BK114.out (by decide)) (fun _ hk => hk.1.2) (.slice Ao9 t101.length co9)) (fun _ hk => hk.1.2) (.slice Ao12 t104.length co12)) (fun _ hk => hk.2) (.slice Ao13 t107.length co13)) (fun _ hk => hk.2) (.slice Ao15 t110.length co15)) (fun _ h_ => h_.1)) (fun _ h_ => h_.1)))); (case side4 => exact (Kd.R_reads' HO106.out).2.1); rintro e w16 ⟨v116, rfl, ho0, hb⟩; refine ⟨_, rfl, ?_⟩; have n0_ := Aside0.mk (Kd.R_elder' (by (with_reducible repeat (first | apply Kd.R_alloc | apply Kd.R_drewN | apply Kd.R_drew)); exact (Kd.R_mono (Kd.R_mono (Kd.R_far (p := ⟨gb114, 1, none⟩) (Kd.R_far (p := ⟨gb114, 0, none⟩) (Kd.R_far (p := ⟨gb113, 1, none⟩) (Kd.R_far (p := ⟨gb113, 0, none⟩) (Kd.R_types (Kd.R_types HO103.out BK113.out (by decide)) BK114.out (by decide)) (fun _ hk => hk.1.2) (.slice Ao9 t101.length co9)) (fun _ hk => hk.1.2) (.slice Ao12 t104.length co12)) (fun _ hk => hk.2) (.slice Ao13 t107.length co13)) (fun _ hk => hk.2) (.slice Ao15 t110.length co15)) (fun _ h_ => h_.1)) (fun _ h_ => h_.1))) (Kd.R_base ho0) hb); have n1_ := Aside0.mk (Kd.R_elder' (by (with_reducible repeat (first | apply Kd.R_alloc | apply Kd.R_drewN | apply Kd.R_drew)); exact (Kd.R_mono (Kd.R_mono (Kd.R_far (p := ⟨gb114, 1, none⟩) (Kd.R_far (p := ⟨gb114, 0, none⟩) (Kd.R_far (p := ⟨gb113, 1, none⟩) (Kd.R_far (p := ⟨gb113, 0, none⟩) (Kd.R_types (Kd.R_types HO106.out BK113.out (by decide)) BK114.out (by decide)) (fun _ hk => hk.1.2) (.slice Ao9 t101.length co9)) (fun _ hk => hk.1.2) (.slice Ao12 t104.length co12)) (fun _ hk => hk.2) (.slice Ao13 t107.length co13)) (fun _ hk => hk.2) (.slice Ao15 t110.length co15)) (fun _ h_ => h_.1)) (fun _ h_ => h_.1))) (Kd.R_base ho0) hb); have n2_ := Aside0.mk (Kd.R_elder' (by (with_reducible repeat (first | apply Kd.R_alloc | apply Kd.R_drewN | apply Kd.R_drew)); exact (Kd.R_mono (Kd.R_mono (Kd.R_far (p := ⟨gb114, 1, none⟩) (Kd.R_far (p := ⟨gb114, 0, none⟩) (Kd.R_far (p := ⟨gb113, 1, none⟩) (Kd.R_far (p := ⟨gb113, 0, none⟩) (Kd.R_types (Kd.R_types HO109.out BK113.out (by decide)) BK114.out (by decide)) (fun _ hk => hk.1.2) (.slice Ao9 t101.length co9)) (fun _ hk => hk.1.2) (.slice Ao12 t104.length co12)) (fun _ hk => hk.2) (.slice Ao13 t107.length co13)) (fun _ hk => hk.2) (.slice Ao15 t110.length co15)) (fun _ h_ => h_.1)) (fun _ h_ => h_.1))) (Kd.R_base ho0) hb); have n3_ := Aside0.mk (Kd.R_elder' (by (with_reducible repeat (first | apply Kd.R_alloc | apply Kd.R_drewN | apply Kd.R_drew)); exact (Kd.R_mono (Kd.R_mono (Kd.R_far (p := ⟨gb114, 1, none⟩) (Kd.R_far (p := ⟨gb114, 0, none⟩) (Kd.R_far (p := ⟨gb113, 1, none⟩) (Kd.R_far (p := ⟨gb113, 0, none⟩) (Kd.R_types (Kd.R_types HO112.out BK113.out (by decide)) BK114.out (by decide)) (fun _ hk => hk.1.2) (.slice Ao9 t101.length co9)) (fun _ hk => hk.1.2) (.slice Ao12 t104.length co12)) (fun _ hk => hk.2) (.slice Ao13 t107.length co13)) (fun _ hk => hk.2) (.slice Ao15 t110.length co15)) (fun _ h_ => h_.1)) (fun _ h_ => h_.1))) (Kd.R_base ho0) hb); have n4_ := Aside0.mk (Kd.R_lower (Kd.R_new' (Kd.R_new' (Kd.R_new' (Kd.R_new' ho0 (Kd.R_lt (by (with_reducible repeat (first | apply Kd.R_alloc | apply Kd.R_drewN | apply Kd.R_drew)); exact (Kd.R_mono (Kd.R_mono (Kd.R_far (p := ⟨gb114, 1, none⟩) (Kd.R_far (p := ⟨gb114, 0, none⟩) (Kd.R_far (p := ⟨gb113, 1, none⟩) (Kd.R_far (p := ⟨gb113, 0, none⟩) (Kd.R_types (Kd.R_types HO103.out BK113.out (by decide)) BK114.out (by decide)) (fun _ hk => hk.1.2) (.slice Ao9 t101.length co9)) (fun _ hk => hk.1.2) (.slice Ao12 t104.length co12)) (fun _ hk => hk.2) (.slice Ao13 t107.length co13)) (fun _ hk => hk.2) (.slice Ao15 t110.length co15)) (fun _ h_ => h_.1)) (fun _ h_ => h_.1))))) (Kd.R_lt (by (with_reducible repeat (first | apply Kd.R_alloc | apply Kd.R_drewN | apply Kd.R_drew)); exact (Kd.R_mono (Kd.R_mono (Kd.R_far (p := ⟨gb114, 1, none⟩) (Kd.R_far (p := ⟨gb114, 0, none⟩) (Kd.R_far (p := ⟨gb113, 1, none⟩) (Kd.R_far (p := ⟨gb113, 0, none⟩) (Kd.R_types (Kd.R_types HO106.out BK113.out (by decide)) BK114.out (by decide)) (fun _ hk => hk.1.2) (.slice Ao9 t101.length co9)) (fun _ hk => hk.1.2) (.slice Ao12 t104.length co12)) (fun _ hk => hk.2) (.slice Ao13 t107.length co13)) (fun _ hk => hk.2) (.slice Ao15 t110.length co15)) (fun _ h_ => h_.1)) (fun _ h_ => h_.1))))) (Kd.R_lt (by (with_reducible repeat (first | apply Kd.R_alloc | apply Kd.R_drewN | apply Kd.R_drew)); exact (Kd.R_mono (Kd.R_mono (Kd.R_far (p := ⟨gb114, 1, none⟩) (Kd.R_far (p := ⟨gb114, 0, none⟩) (Kd.R_far (p := ⟨gb113, 1, none⟩) (Kd.R_far (p := ⟨gb113, 0, none⟩) (Kd.R_types (Kd.R_types HO109.out BK113.out (by decide)) BK114.out (by decide)) (fun _ hk => hk.1.2) (.slice Ao9 t101.length co9)) (fun _ hk => hk.1.2) (.slice Ao12 t104.length co12)) (fun _ hk => hk.2) (.slice Ao13 t107.length co13)) (fun _ hk => hk.2) (.slice Ao15 t110.length co15)) (fun _ h_ => h_.1)) (fun _ h_ => h_.1))))) (Kd.R_lt (by (with_reducible repeat (first | apply Kd.R_alloc | apply Kd.R_drewN | apply Kd.R_drew)); exact (Kd.R_mono (Kd.R_mono (Kd.R_far (p := ⟨gb114, 1, none⟩) (Kd.R_far (p := ⟨gb114, 0, none⟩) (Kd.R_far (p := ⟨gb113, 1, none⟩) (Kd.R_far (p := ⟨gb113, 0, none⟩) (Kd.R_types (Kd.R_types HO112.out BK113.out (by decide)) BK114.out (by decide)) (fun _ hk => hk.1.2) (.slice Ao9 t101.length co9)) (fun _ hk => hk.1.2) (.slice Ao12 t104.length co12)) (fun _ hk => hk.2) (.slice Ao13 t107.length co13)) (fun _ hk => hk.2) (.slice Ao15 t110.length co15)) (fun _ h_ => h_.1)) (fun _ h_ => h_.1))))) (below_size (by repeat (first | (with_reducible first | exact HB.out | apply below_alloc | apply pw_below_drewN | apply below_drew1 | refine below_set ?_ GE113.out | refine below_set ?_ GE114.out) | exact HB.out)))); have n5_ := Aside0.mk (blk_below (g := gb113) (o := .cells #[.slice Ao9 t101.length co9, .slice Ao12 t104.length co12] 24 (0, 0)) (by (with_reducible repeat (first | refine blk_drewN ?_ _ | refine blk_drew ?_ | refine blk_alloc ?_ _)); refine blk_far ?_ NB113_114.out _; (with_reducible repeat (first | refine blk_drewN ?_ _ | refine blk_drew ?_ | refine blk_alloc ?_ _)); refine blk_far ?_ NB113_114.out _; (with_reducible repeat (first | refine blk_drewN ?_ _ | refine blk_drew ?_ | refine blk_alloc ?_ _)); refine blk_put (cs := #[.slice Ao9 t101.length co9, .slice none 0 0]) ?_ 1 _ rfl; (with_reducible repeat (first | refine blk_drewN ?_ _ | refine blk_drew ?_ | refine blk_alloc ?_ _)); refine blk_put (cs := #[.slice none 0 0, .slice none 0 0]) ?_ 0 _ rfl; (with_reducible repeat (first | refine blk_drewN ?_ _ | refine blk_drew ?_ | refine blk_alloc ?_ _)); exact BK113.out) hb); have n6_ := Aside0.mk (blk_below (g := gb114) (o := .cells #[.slice Ao13 t107.length co13, .slice Ao15 t110.length co15] 25 (0, 0)) (by (with_reducible repeat (first | refine blk_drewN ?_ _ | refine blk_drew ?_ | refine blk_alloc ?_ _)); refine blk_put (cs := #[.slice Ao13 t107.length co13, .slice none 0 0]) ?_ 1 _ rfl; (with_reducible repeat (first | refine blk_drewN ?_ _ | refine blk_drew ?_ | refine blk_alloc ?_ _)); refine blk_put (cs := #[.slice none 0 0, .slice none 0 0]) ?_ 0 _ rfl; (with_reducible repeat (first | refine blk_drewN ?_ _ | refine blk_drew ?_ | refine blk_alloc ?_ _)); refine blk_far ?_ NB114_113.out _; (with_reducible repeat (first | refine blk_drewN ?_ _ | refine blk_drew ?_ | refine blk_alloc ?_ _)); refine blk_far ?_ NB114_113.out _; (with_reducible repeat (first | refine blk_drewN ?_ _ | refine blk_drew ?_ | refine blk_alloc ?_ _)); exact BK114.out) hb); have n7_ := Aside0.mk (below_step (by repeat (first | (with_reducible first | exact HB.out | apply below_alloc | apply pw_below_drewN | apply below_drew1 | refine below_set ?_ GE113.out | refine below_set ?_ GE114.out) | exact HB.out)) hb); clear HO103; clear HO106; clear HO109; clear HO112; clear BK113; clear BK114; clear HB; have HO103 := n0_; have HO106 := n1_; have HO109 := n2_; have HO112 := n3_; have HO117 := n4_; have BK113 := n5_; have BK114 := n6_; have HB := n7_; clear n0_ n1_ n2_ n3_ n4_ n5_ n6_ n7_; (try clear hb); (try clear hb2); (try clear hk); (try clear hi); (try clear ho0); obtain ⟨Ao17, co17, eo17⟩ := Kd.R_slice HO117.out; subst eo17) | ((with_reducible refine gate_callee (f := 26) rfl ?_); refine goesL_ (some 16) rfl rfl Try.func26 (by kernel_rfl) rfl #[.slice Ao17 t115.length co17] rfl (by (try simp only [List.map_toArray, List.map_cons, List.map_nil]); first | done | rfl | (simp only [List.length_drop, List.length_take]; rfl)) ?_; (with_reducible refine (imprimaturlaw07_bits.calls k _ _ t115 t118 _ ?side1 ?side2 A4.out).mono ?_); (case side1 => repeat (first | exact (Kd.R_reads' HO117.out).2.2 | (with_reducible refine Kd.C_alloc ?_ _) | (with_reducible refine Kd.C_drewN ?_ _) | (with_reducible refine Kd.C_drew ?_))); (case side2 => exact (Kd.R_reads' HO117.out).2.1); rintro e w' ⟨rfl, ⟨nd, rfl⟩⟩; refine ⟨_, rfl, ?_⟩))
  (try simp only [Act.put, List.setIfInBounds_toArray, List.set_cons_zero, List.set_cons_succ])
  go_cut [33] (fun v33 wc => ∃ (kq : Nat) (x33_4 : Bool), v33 = .bool x33_4 ∧ Aside0 (imprimaturlaw07_EnterStart.j0 kq t118 x33_4 t101 t104 = some r) ∧ Aside0 (kq ≤ k) ∧ Aside0 (Kd.R (Kd.int .i64) 3 wc w.heap.size (fun k_ => some k_ ≠ ((.slice Ao12 t104.length co12) : Value).ownBlock ∧ some k_ ≠ ((.slice Ao13 t107.length co13) : Value).ownBlock ∧ some k_ ≠ ((.slice Ao15 t110.length co15) : Value).ownBlock) (.slice Ao9 t101.length co9) t101) ∧ Aside0 (Kd.R (Kd.int .i64) 3 wc w.heap.size (fun k_ => some k_ ≠ ((.slice Ao9 t101.length co9) : Value).ownBlock ∧ some k_ ≠ ((.slice Ao13 t107.length co13) : Value).ownBlock ∧ some k_ ≠ ((.slice Ao15 t110.length co15) : Value).ownBlock) (.slice Ao12 t104.length co12) t104) ∧ Aside0 (Kd.R (Kd.int .i64) 3 wc w.heap.size (fun k_ => some k_ ≠ ((.slice Ao9 t101.length co9) : Value).ownBlock ∧ some k_ ≠ ((.slice Ao12 t104.length co12) : Value).ownBlock ∧ some k_ ≠ ((.slice Ao15 t110.length co15) : Value).ownBlock) (.slice Ao13 t107.length co13) t107) ∧ Aside0 (Kd.R (Kd.int .i64) 3 wc w.heap.size (fun k_ => some k_ ≠ ((.slice Ao9 t101.length co9) : Value).ownBlock ∧ some k_ ≠ ((.slice Ao12 t104.length co12) : Value).ownBlock ∧ some k_ ≠ ((.slice Ao13 t107.length co13) : Value).ownBlock) (.slice Ao15 t110.length co15) t110) ∧ Aside0 (wc.heap[gb113]? = some (.cells #[(.slice Ao9 t101.length co9), (.slice Ao12 t104.length co12)] 24 (0, 0))) ∧ Aside0 (wc.heap[gb114]? = some (.cells #[(.slice Ao13 t107.length co13), (.slice Ao15 t110.length co15)] 25 (0, 0))) ∧ Aside0 (Below w.heap.size w wc))
  case first =>
    have H := HC5.out
    clear HC5
    replace H := Option.bind_eq_some_iff.mp H
    obtain ⟨t119, A180, H⟩ := H
    replace H : (if t119 = true then (if (t115.length : Int) = 0 then (imprimaturlaw07_EnterStart.j0 k t118 true t101 t104) else (if 0 < (t115.length : Int) then ((shape_Initial.f k t101 t104 (-1)).bind fun t121 => (imprimaturlaw07_EnterStart.j0 k t118 ((rd t115 0) != t121) t101 t104)) else (none))) else (imprimaturlaw07_EnterStart.j0 k t118 true t101 t104)) = some r := H
    have A18 := Aside0.mk A180
    clear A180
    by_cases c19 : t119 = true
    · subst c19
      have H1 : (if (t115.length : Int) = 0 then (imprimaturlaw07_EnterStart.j0 k t118 true t101 t104) else (if 0 < (t115.length : Int) then ((shape_Initial.f k t101 t104 (-1)).bind fun t121 => (imprimaturlaw07_EnterStart.j0 k t118 ((rd t115 0) != t121) t101 t104)) else (none))) = some r := by rw [if_pos rfl] at H; exact H
      clear H
      have H := H1
      clear H1
      by_cases c20 : (t115.length : Int) = 0
      · rw [if_pos c20] at H
        have c20b0 : ((t115.length : Int) == 0) = true := beq_iff_eq.mpr c20
        have c20b1 : ((t115.length : Int) != 0) = false := bne_eq_false_iff_eq.mpr c20
        clear c20
        (first | rw [c20b0] | (simp only [i64_w, i32_w]; rw [c20b0]) | skip)
        have H' := Aside0.mk H
        clear H
        try go_wp2
        (try (rw [drewN_self w16]; generalize hq_ : World.drewN w16 _ = w16; have n0_ : Aside0 (Kd.R (Kd.int .i64) 3 w16 w.heap.size (fun k_ => some k_ ≠ (.slice Ao12 t104.length co12 : Value).ownBlock ∧ some k_ ≠ (.slice Ao13 t107.length co13 : Value).ownBlock ∧ some k_ ≠ (.slice Ao15 t110.length co15 : Value).ownBlock ∧ some k_ ≠ (.slice Ao17 t115.length co17 : Value).ownBlock) (.slice Ao9 t101.length co9) t101) := ⟨by rw [← hq_]; exact (by (with_reducible repeat (first | apply Kd.R_alloc | apply Kd.R_drewN | apply Kd.R_drew)); exact Kd.R_mono HO103.out (fun _ hk => (by first | exact ⟨hk.1.1, ⟨hk.1.2.1, ⟨hk.1.2.2, hk.2⟩⟩⟩ | exact hk | exact ⟨hk.1, hk.2.1, hk.2.2.1⟩)))⟩; have n1_ : Aside0 (Kd.R (Kd.int .i64) 3 w16 w.heap.size (fun k_ => some k_ ≠ (.slice Ao9 t101.length co9 : Value).ownBlock ∧ some k_ ≠ (.slice Ao13 t107.length co13 : Value).ownBlock ∧ some k_ ≠ (.slice Ao15 t110.length co15 : Value).ownBlock ∧ some k_ ≠ (.slice Ao17 t115.length co17 : Value).ownBlock) (.slice Ao12 t104.length co12) t104) := ⟨by rw [← hq_]; exact (by (with_reducible repeat (first | apply Kd.R_alloc | apply Kd.R_drewN | apply Kd.R_drew)); exact Kd.R_mono HO106.out (fun _ hk => (by first | exact ⟨hk.1.1, ⟨hk.1.2.1, ⟨hk.1.2.2, hk.2⟩⟩⟩ | exact hk | exact ⟨hk.1, hk.2.1, hk.2.2.1⟩)))⟩; have n2_ : Aside0 (Kd.R (Kd.int .i64) 3 w16 w.heap.size (fun k_ => some k_ ≠ (.slice Ao9 t101.length co9 : Value).ownBlock ∧ some k_ ≠ (.slice Ao12 t104.length co12 : Value).ownBlock ∧ some k_ ≠ (.slice Ao15 t110.length co15 : Value).ownBlock ∧ some k_ ≠ (.slice Ao17 t115.length co17 : Value).ownBlock) (.slice Ao13 t107.length co13) t107) := ⟨by rw [← hq_]; exact (by (with_reducible repeat (first | apply Kd.R_alloc | apply Kd.R_drewN | apply Kd.R_drew)); exact Kd.R_mono HO109.out (fun _ hk => (by first | exact ⟨hk.1.1, ⟨hk.1.2.1, ⟨hk.1.2.2, hk.2⟩⟩⟩ | exact hk | exact ⟨hk.1, hk.2.1, hk.2.2.1⟩)))⟩; have n3_ : Aside0 (Kd.R (Kd.int .i64) 3 w16 w.heap.size (fun k_ => some k_ ≠ (.slice Ao9 t101.length co9 : Value).ownBlock ∧ some k_ ≠ (.slice Ao12 t104.length co12 : Value).ownBlock ∧ some k_ ≠ (.slice Ao13 t107.length co13 : Value).ownBlock ∧ some k_ ≠ (.slice Ao17 t115.length co17 : Value).ownBlock) (.slice Ao15 t110.length co15) t110) := ⟨by rw [← hq_]; exact (by (with_reducible repeat (first | apply Kd.R_alloc | apply Kd.R_drewN | apply Kd.R_drew)); exact Kd.R_mono HO112.out (fun _ hk => (by first | exact ⟨hk.1.1, ⟨hk.1.2.1, ⟨hk.1.2.2, hk.2⟩⟩⟩ | exact hk | exact ⟨hk.1, hk.2.1, hk.2.2.1⟩)))⟩; have n4_ : Aside0 (Kd.R (Kd.int .i64) 3 w16 w.heap.size (fun k_ => some k_ ≠ (.slice Ao9 t101.length co9 : Value).ownBlock ∧ some k_ ≠ (.slice Ao12 t104.length co12 : Value).ownBlock ∧ some k_ ≠ (.slice Ao13 t107.length co13 : Value).ownBlock ∧ some k_ ≠ (.slice Ao15 t110.length co15 : Value).ownBlock) (.slice Ao17 t115.length co17) t115) := ⟨by rw [← hq_]; exact (by (with_reducible repeat (first | apply Kd.R_alloc | apply Kd.R_drewN | apply Kd.R_drew)); exact Kd.R_mono HO117.out (fun _ hk => (by first | exact ⟨hk.1.1.1.2, ⟨hk.1.1.2, ⟨hk.1.2, hk.2⟩⟩⟩ | exact hk | exact ⟨hk.1, hk.2.1, hk.2.2.1⟩)))⟩; have n5_ : Aside0 (w16.heap[gb113]? = some (.cells #[.slice Ao9 t101.length co9, .slice Ao12 t104.length co12] 24 (0, 0))) := ⟨by rw [← hq_]; exact (by (with_reducible repeat (first | refine blk_drewN ?_ _ | refine blk_drew ?_ | refine blk_alloc ?_ _)); exact BK113.out)⟩; have n6_ : Aside0 (w16.heap[gb114]? = some (.cells #[.slice Ao13 t107.length co13, .slice Ao15 t110.length co15] 25 (0, 0))) := ⟨by rw [← hq_]; exact (by (with_reducible repeat (first | refine blk_drewN ?_ _ | refine blk_drew ?_ | refine blk_alloc ?_ _)); exact BK114.out)⟩; have n7_ : Aside0 (Below w.heap.size w w16) := ⟨by rw [← hq_]; exact (by repeat (first | (with_reducible first | exact HB.out | apply below_alloc | apply pw_below_drewN | apply below_drew1 | refine below_set ?_ GE113.out | refine below_set ?_ GE114.out) | exact HB.out))⟩; clear HO103 HO106 HO109 HO112 HO117 BK113 BK114 HB hq_; have HO103 := n0_; have HO106 := n1_; have HO109 := n2_; have HO112 := n3_; have HO117 := n4_; have BK113 := n5_; have BK114 := n6_; have HB := n7_; clear n0_ n1_ n2_ n3_ n4_ n5_ n6_ n7_))
        have n0_ := Aside0.mk (Kd.R_drew HO103.out)
        have n1_ := Aside0.mk (Kd.R_drew HO106.out)
        have n2_ := Aside0.mk (Kd.R_drew HO109.out)
        have n3_ := Aside0.mk (Kd.R_drew HO112.out)
        have n4_ := Aside0.mk (Kd.R_drew HO117.out)
        have n5_ := Aside0.mk (blk_drew BK113.out)
        have n6_ := Aside0.mk (blk_drew BK114.out)
        have n7_ := Aside0.mk (below_drew1 HB.out)
        clear HO103
        clear HO106
        clear HO109
        clear HO112
        clear HO117
        clear BK113
        clear BK114
        clear HB
        have HO103 := n0_
        have HO106 := n1_
        have HO109 := n2_
        have HO112 := n3_
        have HO117 := n4_
        have BK113 := n5_
        have BK114 := n6_
        have HB := n7_
        clear n0_ n1_ n2_ n3_ n4_ n5_ n6_ n7_
        refine start_ (n := 17) (S := fun w' => w'.cell? ⟨gb113, 0, none⟩ = some (.slice Ao9 t101.length co9) ∧ w'.cell? ⟨gb113, 1, none⟩ = some (.slice Ao12 t104.length co12)) (ds := []) #[false, false, false, false, false, false, false, false, false, false, false, false, false, false, false, false, false] (by kernel_rfl) rfl rfl ⟨(blk_cell BK113.out 0).trans rfl, (blk_cell BK113.out 1).trans rfl⟩ (fun hHeld => ?_); refine with_tabW imprimaturlaw07_EnterStart.tab4 imprimaturlaw07_EnterStart.bits4 (fun HT_ HW_ => ?_)
        generalize w16.drew = w21 at HO103 HO106 HO109 HO112 HO117 BK113 BK114 HB hHeld ⊢
        refine pure_ (i := 1) (N := some 18) (v := ?_) (a' := ?_) #[false, true, false, false, false, false, false, false, false, false, false, false, false, false, false, false, false] rfl rfl (any_of HT_.out (by kernel_rfl)) (fun _ _ _ h => h) (Or.inl ⟨by rfl, ?_⟩) ?_ ?_
        rotate_left
        · intro w'
          go_simp
          with_reducible rfl
        rotate_left
        · simp only [Act.put, List.setIfInBounds_toArray, List.set_cons_zero, List.set_cons_succ, i64_w, i32_w]
          rfl
        refine take_ (i := 0) (N := some 17) (v := ?_) (a' := ?_) #[true, true, false, false, false, false, false, false, false, false, false, false, false, false, false, false, false] rfl rfl (take_ofW HT_.out HW_.out (by kernel_rfl)) (fun _ _ _ h => h) (Or.inl ⟨by rfl, ?_⟩) hHeld ?_ ?_
        rotate_left
        · rintro w' ⟨s0, s1⟩
          go_simp
          with_reducible rfl
        rotate_left
        · simp only [Act.put, List.setIfInBounds_toArray, List.set_cons_zero, List.set_cons_succ, i64_w, i32_w]
          rfl
        refine one_ (i := 2) (N := some 19) #[true, true, true, false, false, false, false, false, false, false, false, false, false, false, false, false, false] rfl rfl (one_of HT_.out (by kernel_rfl)) (by decide) (fun K hK => ?_)
        refine goes_ Try.func15 (by kernel_rfl) rfl #[.agg #[.slice Ao9 t101.length co9, .slice Ao12 t104.length co12], .int .u32 t118] (by rfl) rfl rfl (by (try simp only [List.map_toArray, List.map_cons, List.map_nil]); first | done | rfl | (simp only [List.length_drop, List.length_take]; rfl)) ?_
        with_reducible refine (shape_Proper.calls k _ _ t101 _ _ t104 t118 true _ ?side1 ?side2 ?side3 ?side4 A18.out).mono ?_
        (case side1 => repeat (first | exact (Kd.R_reads' HO103.out).2.2 | (with_reducible refine Kd.C_alloc ?_ _) | (with_reducible refine Kd.C_drewN ?_ _) | (with_reducible refine Kd.C_drew ?_)))
        (case side2 => exact (Kd.R_reads' HO103.out).2.1)
        (case side3 => repeat (first | exact (Kd.R_reads' HO106.out).2.2 | (with_reducible refine Kd.C_alloc ?_ _) | (with_reducible refine Kd.C_drewN ?_ _) | (with_reducible refine Kd.C_drew ?_)))
        (case side4 => exact (Kd.R_reads' HO106.out).2.1)
        rintro e w22 ⟨rfl, hb⟩
        refine ⟨_, rfl, ?_⟩
        have n0_ := Aside0.mk (Kd.R_below (by (with_reducible repeat (first | apply Kd.R_alloc | apply Kd.R_drewN | apply Kd.R_drew)); exact HO103.out) hb)
        have n1_ := Aside0.mk (Kd.R_below (by (with_reducible repeat (first | apply Kd.R_alloc | apply Kd.R_drewN | apply Kd.R_drew)); exact HO106.out) hb)
        have n2_ := Aside0.mk (Kd.R_below (by (with_reducible repeat (first | apply Kd.R_alloc | apply Kd.R_drewN | apply Kd.R_drew)); exact HO109.out) hb)
        have n3_ := Aside0.mk (Kd.R_below (by (with_reducible repeat (first | apply Kd.R_alloc | apply Kd.R_drewN | apply Kd.R_drew)); exact HO112.out) hb)
        have n4_ := Aside0.mk (Kd.R_below (by (with_reducible repeat (first | apply Kd.R_alloc | apply Kd.R_drewN | apply Kd.R_drew)); exact HO117.out) hb)
        have n5_ := Aside0.mk (blk_below (g := gb113) (o := .cells #[.slice Ao9 t101.length co9, .slice Ao12 t104.length co12] 24 (0, 0)) (by (with_reducible repeat (first | refine blk_drewN ?_ _ | refine blk_drew ?_ | refine blk_alloc ?_ _)); exact BK113.out) hb)
        have n6_ := Aside0.mk (blk_below (g := gb114) (o := .cells #[.slice Ao13 t107.length co13, .slice Ao15 t110.length co15] 25 (0, 0)) (by (with_reducible repeat (first | refine blk_drewN ?_ _ | refine blk_drew ?_ | refine blk_alloc ?_ _)); exact BK114.out) hb)
        have n7_ := Aside0.mk (below_step (by repeat (first | (with_reducible first | exact HB.out | apply below_alloc | apply pw_below_drewN | apply below_drew1 | refine below_set ?_ GE113.out | refine below_set ?_ GE114.out) | exact HB.out)) hb)
        clear HO103
        clear HO106
        clear HO109
        clear HO112
        clear HO117
        clear BK113
        clear BK114
        clear HB
        have HO103 := n0_
        have HO106 := n1_
        have HO109 := n2_
        have HO112 := n3_
        have HO117 := n4_
        have BK113 := n5_
        have BK114 := n6_
        have HB := n7_
        clear n0_ n1_ n2_ n3_ n4_ n5_ n6_ n7_
        (try clear hb)
        (try clear hb2)
        (try clear hk)
        (try clear hi)
        refine hK.out _ _ ⟨(blk_cell BK113.out 0).trans rfl, (blk_cell BK113.out 1).trans rfl⟩ (fun hHeld => ?_)
        clear hK K
        refine norm_ (a' := ?_) ?_ ?_
        rotate_left
        · show Act.put _ (some 19) _ = _
          simp only [Act.put, List.setIfInBounds_toArray, List.set_cons_zero, List.set_cons_succ, i64_w, i32_w]
          rfl
        refine pure_ (i := 3) (N := some 20) (v := ?_) (a' := ?_) #[true, true, true, true, false, false, false, false, false, false, false, false, false, false, false, false, false] rfl rfl (any_of HT_.out (by kernel_rfl)) (fun _ _ _ h => h) (Or.inl ⟨by rfl, ?_⟩) ?_ ?_
        rotate_left
        · intro w'
          go_simp
          with_reducible rfl
        rotate_left
        · simp only [Act.put, List.setIfInBounds_toArray, List.set_cons_zero, List.set_cons_succ, i64_w, i32_w]
          rfl
        refine pure_ (i := 4) (N := some 21) (v := ?_) (a' := ?_) #[true, true, true, true, true, false, false, false, false, false, false, false, false, false, false, false, false] rfl rfl (any_of HT_.out (by kernel_rfl)) (fun _ _ _ h => h) (Or.inl ⟨by rfl, ?_⟩) ?_ ?_
        rotate_left
        · intro w'
          go_simp
          with_reducible rfl
        rotate_left
        · simp only [Act.put, List.setIfInBounds_toArray, List.set_cons_zero, List.set_cons_succ, i64_w, i32_w]
          rfl
        refine pure_ (i := 5) (N := some 22) (v := ?_) (a' := ?_) #[true, true, true, true, true, true, false, false, false, false, false, false, false, false, false, false, false] rfl rfl (any_of HT_.out (by kernel_rfl)) (fun _ _ _ h => h) (Or.inl ⟨by rfl, ?_⟩) ?_ ?_
        rotate_left
        · intro w'
          go_simp
          with_reducible rfl
        rotate_left
        · simp only [Act.put, List.setIfInBounds_toArray, List.set_cons_zero, List.set_cons_succ, i64_w, i32_w]
          rfl
        refine pure_ (i := 6) (N := some 23) (v := ?_) (a' := ?_) #[true, true, true, true, true, true, true, false, false, false, false, false, false, false, false, false, false] rfl rfl (any_of HT_.out (by kernel_rfl)) (fun _ _ _ h => h) (Or.inl ⟨by rfl, ?_⟩) ?_ ?_
        rotate_left
        · intro w'
          go_simp
          with_reducible rfl
        rotate_left
        · simp only [Act.put, List.setIfInBounds_toArray, List.set_cons_zero, List.set_cons_succ, i64_w, i32_w]
          rfl
        refine pure_ (i := 7) (N := some 24) (v := ?_) (a' := ?_) #[true, true, true, true, true, true, true, true, false, false, false, false, false, false, false, false, false] rfl rfl (any_of HT_.out (by kernel_rfl)) (fun _ _ _ h => h) (Or.inl ⟨by rfl, ?_⟩) ?_ ?_
        rotate_left
        · intro w'
          go_simp
          with_reducible rfl
        rotate_left
        · simp only [Act.put, List.setIfInBounds_toArray, List.set_cons_zero, List.set_cons_succ, i64_w, i32_w]
          rfl
        refine pure_ (i := 8) (N := some 25) (v := ?_) (a' := ?_) #[true, true, true, true, true, true, true, true, true, false, false, false, false, false, false, false, false] rfl rfl (any_of HT_.out (by kernel_rfl)) (fun _ _ _ h => h) (Or.inl ⟨by rfl, ?_⟩) ?_ ?_
        rotate_left
        · intro w'
          go_simp
          with_reducible rfl
        rotate_left
        · simp only [Act.put, List.setIfInBounds_toArray, List.set_cons_zero, List.set_cons_succ, i64_w, i32_w]
          rfl
        refine pure_ (i := 9) (N := some 26) (v := ?_) (a' := ?_) #[true, true, true, true, true, true, true, true, true, true, false, false, false, false, false, false, false] rfl rfl (any_of HT_.out (by kernel_rfl)) (fun _ _ _ h => h) (Or.inl ⟨by rfl, ?_⟩) ?_ ?_
        rotate_left
        · intro w'
          go_simp
          with_reducible rfl
        rotate_left
        · simp only [Act.put, List.setIfInBounds_toArray, List.set_cons_zero, List.set_cons_succ, i64_w, i32_w]
          rfl
        refine pure_ (i := 10) (N := some 27) (v := undef) (a' := ?_) #[true, true, true, true, true, true, true, true, true, true, true, false, false, false, false, false, false] rfl rfl (any_of HT_.out (by kernel_rfl)) (fun _ _ _ h => h) (Or.inr ⟨by rfl, rfl⟩) ?_ ?_
        rotate_left
        · simp only [Act.put, List.setIfInBounds_toArray, List.set_cons_zero, List.set_cons_succ, i64_w, i32_w]
          rfl
        refine pure_ (i := 11) (N := some 28) (v := undef) (a' := ?_) #[true, true, true, true, true, true, true, true, true, true, true, true, false, false, false, false, false] rfl rfl (any_of HT_.out (by kernel_rfl)) (fun _ _ _ h => h) (Or.inr ⟨by rfl, rfl⟩) ?_ ?_
        rotate_left
        · simp only [Act.put, List.setIfInBounds_toArray, List.set_cons_zero, List.set_cons_succ, i64_w, i32_w]
          rfl
        refine pure_ (i := 12) (N := some 29) (v := undef) (a' := ?_) #[true, true, true, true, true, true, true, true, true, true, true, true, true, false, false, false, false] rfl rfl (any_of HT_.out (by kernel_rfl)) (fun _ _ _ h => h) (Or.inr ⟨by rfl, rfl⟩) ?_ ?_
        rotate_left
        · simp only [Act.put, List.setIfInBounds_toArray, List.set_cons_zero, List.set_cons_succ, i64_w, i32_w]
          rfl
        refine pure_ (i := 13) (N := some 30) (v := undef) (a' := ?_) #[true, true, true, true, true, true, true, true, true, true, true, true, true, true, false, false, false] rfl rfl (any_of HT_.out (by kernel_rfl)) (fun _ _ _ h => h) (Or.inr ⟨by rfl, rfl⟩) ?_ ?_
        rotate_left
        · simp only [Act.put, List.setIfInBounds_toArray, List.set_cons_zero, List.set_cons_succ, i64_w, i32_w]
          rfl
        refine pure_ (i := 14) (N := some 31) (v := undef) (a' := ?_) #[true, true, true, true, true, true, true, true, true, true, true, true, true, true, true, false, false] rfl rfl (any_of HT_.out (by kernel_rfl)) (fun _ _ _ h => h) (Or.inr ⟨by rfl, rfl⟩) ?_ ?_
        rotate_left
        · simp only [Act.put, List.setIfInBounds_toArray, List.set_cons_zero, List.set_cons_succ, i64_w, i32_w]
          rfl
        refine pure_ (i := 15) (N := some 32) (v := undef) (a' := ?_) #[true, true, true, true, true, true, true, true, true, true, true, true, true, true, true, true, false] rfl rfl (any_of HT_.out (by kernel_rfl)) (fun _ _ _ h => h) (Or.inr ⟨by rfl, rfl⟩) ?_ ?_
        rotate_left
        · simp only [Act.put, List.setIfInBounds_toArray, List.set_cons_zero, List.set_cons_succ, i64_w, i32_w]
          rfl
        refine pure_ (i := 16) (N := some 33) (v := ?_) (a' := ?_) #[true, true, true, true, true, true, true, true, true, true, true, true, true, true, true, true, true] rfl rfl (any_of HT_.out (by kernel_rfl)) (fun _ _ _ h => h) (Or.inl ⟨by rfl, ?_⟩) ?_ ?_
        rotate_left
        · intro w'
          go_simp
          with_reducible rfl
        rotate_left
        · simp only [Act.put, List.setIfInBounds_toArray, List.set_cons_zero, List.set_cons_succ, i64_w, i32_w]
          rfl
        refine done_ (done_of HT_.out (by kernel_rfl)) ?_
        try go_wp2
        go_meet
        case rel => exact ⟨_, (true), (by first | rfl | (simp; done) | (simp [*]; done)), H', ⟨by first | omega | exact Nat.le_refl _⟩, ⟨by (with_reducible repeat (first | apply Kd.R_alloc | apply Kd.R_drewN | apply Kd.R_drew)); exact Kd.R_mono HO103.out (fun _ hk => (by first | exact ⟨hk.1.1, ⟨hk.1.2.1, hk.1.2.2⟩⟩ | exact hk | exact ⟨hk.1, hk.2.1, hk.2.2.1⟩))⟩, ⟨by (with_reducible repeat (first | apply Kd.R_alloc | apply Kd.R_drewN | apply Kd.R_drew)); exact Kd.R_mono HO106.out (fun _ hk => (by first | exact ⟨hk.1.1, ⟨hk.1.2.1, hk.1.2.2⟩⟩ | exact hk | exact ⟨hk.1, hk.2.1, hk.2.2.1⟩))⟩, ⟨by (with_reducible repeat (first | apply Kd.R_alloc | apply Kd.R_drewN | apply Kd.R_drew)); exact Kd.R_mono HO109.out (fun _ hk => (by first | exact ⟨hk.1.1, ⟨hk.1.2.1, hk.1.2.2⟩⟩ | exact hk | exact ⟨hk.1, hk.2.1, hk.2.2.1⟩))⟩, ⟨by (with_reducible repeat (first | apply Kd.R_alloc | apply Kd.R_drewN | apply Kd.R_drew)); exact Kd.R_mono HO112.out (fun _ hk => (by first | exact ⟨hk.1.1, ⟨hk.1.2.1, hk.1.2.2⟩⟩ | exact hk | exact ⟨hk.1, hk.2.1, hk.2.2.1⟩))⟩, ⟨by (with_reducible repeat (first | refine blk_drewN ?_ _ | refine blk_drew ?_ | refine blk_alloc ?_ _)); exact BK113.out⟩, ⟨by (with_reducible repeat (first | refine blk_drewN ?_ _ | refine blk_drew ?_ | refine blk_alloc ?_ _)); exact BK114.out⟩, ⟨by repeat (first | (with_reducible first | exact HB.out | apply below_alloc | apply pw_below_drewN | apply below_drew1 | refine below_set ?_ GE113.out | refine below_set ?_ GE114.out) | exact HB.out)⟩⟩
      · rw [if_neg c20] at H
        have c20b0 : ((t115.length : Int) == 0) = false := beq_eq_false_iff_ne.mpr c20
        have c20b1 : ((t115.length : Int) != 0) = true := bne_iff_ne.mpr c20
        have c20b2 : ¬ (t115 = []) := fun h_ => c20 (by rw [h_]; rfl)
        (first | rw [c20b0] | (simp only [i64_w, i32_w]; rw [c20b0]) | skip)
        by_cases c23 : 0 < (t115.length : Int)
        · rw [if_pos c23] at H
          have c23b0 : decide (0 < (t115.length : Int)) = true := decide_eq_true c23
          have c23b1 : decide (0 < t115.length) = true := decide_eq_true (by omega)
          clear c23
          replace H := Option.bind_eq_some_iff.mp H
          obtain ⟨t121, A240, H⟩ := H
          replace H : (imprimaturlaw07_EnterStart.j0 k t118 ((rd t115 0) != t121) t101 t104) = some r := H
          have A24 := Aside0.mk A240
          clear A240
          have H' := Aside0.mk H
          clear H
          try go_wp2
          (try (rw [drewN_self w16]; generalize hq_ : World.drewN w16 _ = w16; have n0_ : Aside0 (Kd.R (Kd.int .i64) 3 w16 w.heap.size (fun k_ => some k_ ≠ (.slice Ao12 t104.length co12 : Value).ownBlock ∧ some k_ ≠ (.slice Ao13 t107.length co13 : Value).ownBlock ∧ some k_ ≠ (.slice Ao15 t110.length co15 : Value).ownBlock ∧ some k_ ≠ (.slice Ao17 t115.length co17 : Value).ownBlock) (.slice Ao9 t101.length co9) t101) := ⟨by rw [← hq_]; exact (by (with_reducible repeat (first | apply Kd.R_alloc | apply Kd.R_drewN | apply Kd.R_drew)); exact Kd.R_mono HO103.out (fun _ hk => (by first | exact ⟨hk.1.1, ⟨hk.1.2.1, ⟨hk.1.2.2, hk.2⟩⟩⟩ | exact hk | exact ⟨hk.1, hk.2.1, hk.2.2.1⟩)))⟩; have n1_ : Aside0 (Kd.R (Kd.int .i64) 3 w16 w.heap.size (fun k_ => some k_ ≠ (.slice Ao9 t101.length co9 : Value).ownBlock ∧ some k_ ≠ (.slice Ao13 t107.length co13 : Value).ownBlock ∧ some k_ ≠ (.slice Ao15 t110.length co15 : Value).ownBlock ∧ some k_ ≠ (.slice Ao17 t115.length co17 : Value).ownBlock) (.slice Ao12 t104.length co12) t104) := ⟨by rw [← hq_]; exact (by (with_reducible repeat (first | apply Kd.R_alloc | apply Kd.R_drewN | apply Kd.R_drew)); exact Kd.R_mono HO106.out (fun _ hk => (by first | exact ⟨hk.1.1, ⟨hk.1.2.1, ⟨hk.1.2.2, hk.2⟩⟩⟩ | exact hk | exact ⟨hk.1, hk.2.1, hk.2.2.1⟩)))⟩; have n2_ : Aside0 (Kd.R (Kd.int .i64) 3 w16 w.heap.size (fun k_ => some k_ ≠ (.slice Ao9 t101.length co9 : Value).ownBlock ∧ some k_ ≠ (.slice Ao12 t104.length co12 : Value).ownBlock ∧ some k_ ≠ (.slice Ao15 t110.length co15 : Value).ownBlock ∧ some k_ ≠ (.slice Ao17 t115.length co17 : Value).ownBlock) (.slice Ao13 t107.length co13) t107) := ⟨by rw [← hq_]; exact (by (with_reducible repeat (first | apply Kd.R_alloc | apply Kd.R_drewN | apply Kd.R_drew)); exact Kd.R_mono HO109.out (fun _ hk => (by first | exact ⟨hk.1.1, ⟨hk.1.2.1, ⟨hk.1.2.2, hk.2⟩⟩⟩ | exact hk | exact ⟨hk.1, hk.2.1, hk.2.2.1⟩)))⟩; have n3_ : Aside0 (Kd.R (Kd.int .i64) 3 w16 w.heap.size (fun k_ => some k_ ≠ (.slice Ao9 t101.length co9 : Value).ownBlock ∧ some k_ ≠ (.slice Ao12 t104.length co12 : Value).ownBlock ∧ some k_ ≠ (.slice Ao13 t107.length co13 : Value).ownBlock ∧ some k_ ≠ (.slice Ao17 t115.length co17 : Value).ownBlock) (.slice Ao15 t110.length co15) t110) := ⟨by rw [← hq_]; exact (by (with_reducible repeat (first | apply Kd.R_alloc | apply Kd.R_drewN | apply Kd.R_drew)); exact Kd.R_mono HO112.out (fun _ hk => (by first | exact ⟨hk.1.1, ⟨hk.1.2.1, ⟨hk.1.2.2, hk.2⟩⟩⟩ | exact hk | exact ⟨hk.1, hk.2.1, hk.2.2.1⟩)))⟩; have n4_ : Aside0 (Kd.R (Kd.int .i64) 3 w16 w.heap.size (fun k_ => some k_ ≠ (.slice Ao9 t101.length co9 : Value).ownBlock ∧ some k_ ≠ (.slice Ao12 t104.length co12 : Value).ownBlock ∧ some k_ ≠ (.slice Ao13 t107.length co13 : Value).ownBlock ∧ some k_ ≠ (.slice Ao15 t110.length co15 : Value).ownBlock) (.slice Ao17 t115.length co17) t115) := ⟨by rw [← hq_]; exact (by (with_reducible repeat (first | apply Kd.R_alloc | apply Kd.R_drewN | apply Kd.R_drew)); exact Kd.R_mono HO117.out (fun _ hk => (by first | exact ⟨hk.1.1.1.2, ⟨hk.1.1.2, ⟨hk.1.2, hk.2⟩⟩⟩ | exact hk | exact ⟨hk.1, hk.2.1, hk.2.2.1⟩)))⟩; have n5_ : Aside0 (w16.heap[gb113]? = some (.cells #[.slice Ao9 t101.length co9, .slice Ao12 t104.length co12] 24 (0, 0))) := ⟨by rw [← hq_]; exact (by (with_reducible repeat (first | refine blk_drewN ?_ _ | refine blk_drew ?_ | refine blk_alloc ?_ _)); exact BK113.out)⟩; have n6_ : Aside0 (w16.heap[gb114]? = some (.cells #[.slice Ao13 t107.length co13, .slice Ao15 t110.length co15] 25 (0, 0))) := ⟨by rw [← hq_]; exact (by (with_reducible repeat (first | refine blk_drewN ?_ _ | refine blk_drew ?_ | refine blk_alloc ?_ _)); exact BK114.out)⟩; have n7_ : Aside0 (Below w.heap.size w w16) := ⟨by rw [← hq_]; exact (by repeat (first | (with_reducible first | exact HB.out | apply below_alloc | apply pw_below_drewN | apply below_drew1 | refine below_set ?_ GE113.out | refine below_set ?_ GE114.out) | exact HB.out))⟩; clear HO103 HO106 HO109 HO112 HO117 BK113 BK114 HB hq_; have HO103 := n0_; have HO106 := n1_; have HO109 := n2_; have HO112 := n3_; have HO117 := n4_; have BK113 := n5_; have BK114 := n6_; have HB := n7_; clear n0_ n1_ n2_ n3_ n4_ n5_ n6_ n7_))
          have n0_ := Aside0.mk (Kd.R_drew HO103.out)
          have n1_ := Aside0.mk (Kd.R_drew HO106.out)
          have n2_ := Aside0.mk (Kd.R_drew HO109.out)
          have n3_ := Aside0.mk (Kd.R_drew HO112.out)
          have n4_ := Aside0.mk (Kd.R_drew HO117.out)
          have n5_ := Aside0.mk (blk_drew BK113.out)
          have n6_ := Aside0.mk (blk_drew BK114.out)
          have n7_ := Aside0.mk (below_drew1 HB.out)
          clear HO103
          clear HO106
          clear HO109
          clear HO112
          clear HO117
          clear BK113
          clear BK114
          clear HB
          have HO103 := n0_
          have HO106 := n1_
          have HO109 := n2_
          have HO112 := n3_
          have HO117 := n4_
          have BK113 := n5_
          have BK114 := n6_
          have HB := n7_
          clear n0_ n1_ n2_ n3_ n4_ n5_ n6_ n7_
          have p120 : 0 ≤ (0 : Int) := (by omega)
          have q120 : 0 < (t115.length : Int) := of_decide_eq_true (by first | (with_reducible assumption) | assumption)
          obtain ⟨ad120, e120, hx120_0⟩ := Kd.at_int (Kd.R_reads' HO117.out).2.2 0 p120 q120
          cases e120
          have qi120 : (0 < t115.length) = True := eq_true (by omega)
          (try rw [show ((0 : Int)).toNat = 0 from rfl] at hx120_0)
          (try rw [Addr.add_zero'] at hx120_0)
          replace p120 := eq_true p120
          replace q120 := eq_true q120
          refine start_ (n := 17) (S := fun w' => w'.cell? ⟨gb113, 0, none⟩ = some (.slice Ao9 t101.length co9) ∧ w'.cell? ⟨gb113, 1, none⟩ = some (.slice Ao12 t104.length co12) ∧ w'.cell? ad120 = some (.int .i64 (rd t115 0))) (ds := []) #[false, false, false, false, false, false, false, false, false, false, false, false, false, false, false, false, false] (by kernel_rfl) rfl rfl ⟨(blk_cell BK113.out 0).trans rfl, (blk_cell BK113.out 1).trans rfl, hx120_0⟩ (fun hHeld => ?_); refine with_tabW imprimaturlaw07_EnterStart.tab4 imprimaturlaw07_EnterStart.bits4 (fun HT_ HW_ => ?_)
          generalize w16.drew = w25 at HO103 HO106 HO109 HO112 HO117 BK113 BK114 HB hx120_0 hHeld ⊢
          refine pure_ (i := 1) (N := some 18) (v := ?_) (a' := ?_) #[false, true, false, false, false, false, false, false, false, false, false, false, false, false, false, false, false] rfl rfl (any_of HT_.out (by kernel_rfl)) (fun _ _ _ h => h) (Or.inl ⟨by rfl, ?_⟩) ?_ ?_
          rotate_left
          · intro w'
            go_simp
            with_reducible rfl
          rotate_left
          · simp only [Act.put, List.setIfInBounds_toArray, List.set_cons_zero, List.set_cons_succ, i64_w, i32_w]
            rfl
          refine take_ (i := 0) (N := some 17) (v := ?_) (a' := ?_) #[true, true, false, false, false, false, false, false, false, false, false, false, false, false, false, false, false] rfl rfl (take_ofW HT_.out HW_.out (by kernel_rfl)) (fun _ _ _ h => h) (Or.inl ⟨by rfl, ?_⟩) hHeld ?_ ?_
          rotate_left
          · rintro w' ⟨s0, s1, s2⟩
            go_simp
            with_reducible rfl
          rotate_left
          · simp only [Act.put, List.setIfInBounds_toArray, List.set_cons_zero, List.set_cons_succ, i64_w, i32_w]
            rfl
          refine one_ (i := 2) (N := some 19) #[true, true, true, false, false, false, false, false, false, false, false, false, false, false, false, false, false] rfl rfl (one_of HT_.out (by kernel_rfl)) (by decide) (fun K hK => ?_)
          refine goes_ Try.func15 (by kernel_rfl) rfl #[.agg #[.slice Ao9 t101.length co9, .slice Ao12 t104.length co12], .int .u32 t118] (by rfl) rfl rfl (by (try simp only [List.map_toArray, List.map_cons, List.map_nil]); first | done | rfl | (simp only [List.length_drop, List.length_take]; rfl)) ?_
          with_reducible refine (shape_Proper.calls k _ _ t101 _ _ t104 t118 true _ ?side1 ?side2 ?side3 ?side4 A18.out).mono ?_
          (case side1 => repeat (first | exact (Kd.R_reads' HO103.out).2.2 | (with_reducible refine Kd.C_alloc ?_ _) | (with_reducible refine Kd.C_drewN ?_ _) | (with_reducible refine Kd.C_drew ?_)))
          (case side2 => exact (Kd.R_reads' HO103.out).2.1)
          (case side3 => repeat (first | exact (Kd.R_reads' HO106.out).2.2 | (with_reducible refine Kd.C_alloc ?_ _) | (with_reducible refine Kd.C_drewN ?_ _) | (with_reducible refine Kd.C_drew ?_)))
          (case side4 => exact (Kd.R_reads' HO106.out).2.1)
          rintro e w26 ⟨rfl, hb⟩
          have HS2_ := (hb.cell (World.block_lt_of_cell? _ _ (hHeld.2.2))).trans (hHeld.2.2)
          refine ⟨_, rfl, ?_⟩
          have n0_ := Aside0.mk (Kd.R_below (by (with_reducible repeat (first | apply Kd.R_alloc | apply Kd.R_drewN | apply Kd.R_drew)); exact HO103.out) hb)
          have n1_ := Aside0.mk (Kd.R_below (by (with_reducible repeat (first | apply Kd.R_alloc | apply Kd.R_drewN | apply Kd.R_drew)); exact HO106.out) hb)
          have n2_ := Aside0.mk (Kd.R_below (by (with_reducible repeat (first | apply Kd.R_alloc | apply Kd.R_drewN | apply Kd.R_drew)); exact HO109.out) hb)
          have n3_ := Aside0.mk (Kd.R_below (by (with_reducible repeat (first | apply Kd.R_alloc | apply Kd.R_drewN | apply Kd.R_drew)); exact HO112.out) hb)
          have n4_ := Aside0.mk (Kd.R_below (by (with_reducible repeat (first | apply Kd.R_alloc | apply Kd.R_drewN | apply Kd.R_drew)); exact HO117.out) hb)
          have n5_ := Aside0.mk (blk_below (g := gb113) (o := .cells #[.slice Ao9 t101.length co9, .slice Ao12 t104.length co12] 24 (0, 0)) (by (with_reducible repeat (first | refine blk_drewN ?_ _ | refine blk_drew ?_ | refine blk_alloc ?_ _)); exact BK113.out) hb)
          have n6_ := Aside0.mk (blk_below (g := gb114) (o := .cells #[.slice Ao13 t107.length co13, .slice Ao15 t110.length co15] 25 (0, 0)) (by (with_reducible repeat (first | refine blk_drewN ?_ _ | refine blk_drew ?_ | refine blk_alloc ?_ _)); exact BK114.out) hb)
          have n7_ := Aside0.mk (below_step (by repeat (first | (with_reducible first | exact HB.out | apply below_alloc | apply pw_below_drewN | apply below_drew1 | refine below_set ?_ GE113.out | refine below_set ?_ GE114.out) | exact HB.out)) hb)
          clear HO103
          clear HO106
          clear HO109
          clear HO112
          clear HO117
          clear BK113
          clear BK114
          clear HB
          have HO103 := n0_
          have HO106 := n1_
          have HO109 := n2_
          have HO112 := n3_
          have HO117 := n4_
          have BK113 := n5_
          have BK114 := n6_
          have HB := n7_
          clear n0_ n1_ n2_ n3_ n4_ n5_ n6_ n7_
          (try clear hb)
          (try clear hb2)
          (try clear hk)
          (try clear hi)
          refine hK.out _ _ ⟨(blk_cell BK113.out 0).trans rfl, (blk_cell BK113.out 1).trans rfl, HS2_⟩ (fun hHeld => ?_)
          clear hK K
          refine norm_ (a' := ?_) ?_ ?_
          rotate_left
          · show Act.put _ (some 19) _ = _
            simp only [Act.put, List.setIfInBounds_toArray, List.set_cons_zero, List.set_cons_succ, i64_w, i32_w]
            rfl
          refine pure_ (i := 3) (N := some 20) (v := ?_) (a' := ?_) #[true, true, true, true, false, false, false, false, false, false, false, false, false, false, false, false, false] rfl rfl (any_of HT_.out (by kernel_rfl)) (fun _ _ _ h => h) (Or.inl ⟨by rfl, ?_⟩) ?_ ?_
          rotate_left
          · intro w'
            go_simp
            with_reducible rfl
          rotate_left
          · simp only [Act.put, List.setIfInBounds_toArray, List.set_cons_zero, List.set_cons_succ, i64_w, i32_w]
            rfl
          refine pure_ (i := 4) (N := some 21) (v := ?_) (a' := ?_) #[true, true, true, true, true, false, false, false, false, false, false, false, false, false, false, false, false] rfl rfl (any_of HT_.out (by kernel_rfl)) (fun _ _ _ h => h) (Or.inl ⟨by rfl, ?_⟩) ?_ ?_
          rotate_left
          · intro w'
            go_simp
            with_reducible rfl
          rotate_left
          · simp only [Act.put, List.setIfInBounds_toArray, List.set_cons_zero, List.set_cons_succ, i64_w, i32_w]
            rfl
          refine pure_ (i := 5) (N := some 22) (v := ?_) (a' := ?_) #[true, true, true, true, true, true, false, false, false, false, false, false, false, false, false, false, false] rfl rfl (any_of HT_.out (by kernel_rfl)) (fun _ _ _ h => h) (Or.inl ⟨by rfl, ?_⟩) ?_ ?_
          rotate_left
          · intro w'
            go_simp
            with_reducible rfl
          rotate_left
          · simp only [Act.put, List.setIfInBounds_toArray, List.set_cons_zero, List.set_cons_succ, i64_w, i32_w]
            rfl
          refine pure_ (i := 6) (N := some 23) (v := ?_) (a' := ?_) #[true, true, true, true, true, true, true, false, false, false, false, false, false, false, false, false, false] rfl rfl (any_of HT_.out (by kernel_rfl)) (fun _ _ _ h => h) (Or.inl ⟨by rfl, ?_⟩) ?_ ?_
          rotate_left
          · intro w'
            go_simp
            with_reducible rfl
          rotate_left
          · simp only [Act.put, List.setIfInBounds_toArray, List.set_cons_zero, List.set_cons_succ, i64_w, i32_w]
            rfl
          refine pure_ (i := 7) (N := some 24) (v := ?_) (a' := ?_) #[true, true, true, true, true, true, true, true, false, false, false, false, false, false, false, false, false] rfl rfl (any_of HT_.out (by kernel_rfl)) (fun _ _ _ h => h) (Or.inl ⟨by rfl, ?_⟩) ?_ ?_
          rotate_left
          · intro w'
            go_simp
            with_reducible rfl
          rotate_left
          · simp only [Act.put, List.setIfInBounds_toArray, List.set_cons_zero, List.set_cons_succ, i64_w, i32_w]
            rfl
          refine pure_ (i := 8) (N := some 25) (v := ?_) (a' := ?_) #[true, true, true, true, true, true, true, true, true, false, false, false, false, false, false, false, false] rfl rfl (any_of HT_.out (by kernel_rfl)) (fun _ _ _ h => h) (Or.inl ⟨by rfl, ?_⟩) ?_ ?_
          rotate_left
          · intro w'
            go_simp
            with_reducible rfl
          rotate_left
          · simp only [Act.put, List.setIfInBounds_toArray, List.set_cons_zero, List.set_cons_succ, i64_w, i32_w]
            rfl
          refine pure_ (i := 9) (N := some 26) (v := ?_) (a' := ?_) #[true, true, true, true, true, true, true, true, true, true, false, false, false, false, false, false, false] rfl rfl (any_of HT_.out (by kernel_rfl)) (fun _ _ _ h => h) (Or.inl ⟨by rfl, ?_⟩) ?_ ?_
          rotate_left
          · intro w'
            go_simp
            with_reducible rfl
          rotate_left
          · simp only [Act.put, List.setIfInBounds_toArray, List.set_cons_zero, List.set_cons_succ, i64_w, i32_w]
            rfl
          refine pure_ (i := 10) (N := some 27) (v := ?_) (a' := ?_) #[true, true, true, true, true, true, true, true, true, true, true, false, false, false, false, false, false] rfl rfl (any_of HT_.out (by kernel_rfl)) (fun _ _ _ h => h) (Or.inl ⟨by rfl, ?_⟩) ?_ ?_
          rotate_left
          · intro w'
            go_simp
            with_reducible rfl
          rotate_left
          · simp only [Act.put, List.setIfInBounds_toArray, List.set_cons_zero, List.set_cons_succ, i64_w, i32_w]
            rfl
          refine pure_ (i := 11) (N := some 28) (v := ?_) (a' := ?_) #[true, true, true, true, true, true, true, true, true, true, true, true, false, false, false, false, false] rfl rfl (any_of HT_.out (by kernel_rfl)) (fun _ _ _ h => h) (Or.inl ⟨by rfl, ?_⟩) ?_ ?_
          rotate_left
          · intro w'
            go_simp
            with_reducible rfl
          rotate_left
          · simp only [Act.put, List.setIfInBounds_toArray, List.set_cons_zero, List.set_cons_succ, i64_w, i32_w]
            rfl
          refine take_ (i := 12) (N := some 29) (v := ?_) (a' := ?_) #[true, true, true, true, true, true, true, true, true, true, true, true, true, false, false, false, false] rfl rfl (take_ofW HT_.out HW_.out (by kernel_rfl)) (fun _ _ _ h => h) (Or.inl ⟨by rfl, ?_⟩) hHeld ?_ ?_
          rotate_left
          · rintro w' ⟨s0, s1, s2⟩
            go_simp
            with_reducible rfl
          rotate_left
          · simp only [Act.put, List.setIfInBounds_toArray, List.set_cons_zero, List.set_cons_succ, i64_w, i32_w]
            rfl
          refine take_ (i := 13) (N := some 30) (v := ?_) (a' := ?_) #[true, true, true, true, true, true, true, true, true, true, true, true, true, true, false, false, false] rfl rfl (take_ofW HT_.out HW_.out (by kernel_rfl)) (fun _ _ _ h => h) (Or.inl ⟨by rfl, ?_⟩) hHeld ?_ ?_
          rotate_left
          · rintro w' ⟨s0, s1, s2⟩
            go_simp
            with_reducible rfl
          rotate_left
          · simp only [Act.put, List.setIfInBounds_toArray, List.set_cons_zero, List.set_cons_succ, i64_w, i32_w]
            rfl
          refine one_ (i := 14) (N := some 31) #[true, true, true, true, true, true, true, true, true, true, true, true, true, true, true, false, false] rfl rfl (one_of HT_.out (by kernel_rfl)) (by decide) (fun K hK => ?_)
          refine goes_ Try.func30 (by kernel_rfl) rfl #[.agg #[.slice Ao9 t101.length co9, .slice Ao12 t104.length co12], .int .i64 (-1)] (by rfl) rfl rfl (by (try simp only [List.map_toArray, List.map_cons, List.map_nil]); first | done | rfl | (simp only [List.length_drop, List.length_take]; rfl)) ?_
          with_reducible refine (shape_Initial.calls k _ _ t101 _ _ t104 (-1) t121 _ ?side1 ?side2 ?side3 ?side4 A24.out).mono ?_
          (case side1 => repeat (first | exact (Kd.R_reads' HO103.out).2.2 | (with_reducible refine Kd.C_alloc ?_ _) | (with_reducible refine Kd.C_drewN ?_ _) | (with_reducible refine Kd.C_drew ?_)))
          (case side2 => exact (Kd.R_reads' HO103.out).2.1)
          (case side3 => repeat (first | exact (Kd.R_reads' HO106.out).2.2 | (with_reducible refine Kd.C_alloc ?_ _) | (with_reducible refine Kd.C_drewN ?_ _) | (with_reducible refine Kd.C_drew ?_)))
          (case side4 => exact (Kd.R_reads' HO106.out).2.1)
          rintro e w27 ⟨rfl, hb⟩
          have HS2_ := (hb.cell (World.block_lt_of_cell? _ _ (hHeld.2.2))).trans (hHeld.2.2)
          refine ⟨_, rfl, ?_⟩
          have n0_ := Aside0.mk (Kd.R_below (by (with_reducible repeat (first | apply Kd.R_alloc | apply Kd.R_drewN | apply Kd.R_drew)); exact HO103.out) hb)
          have n1_ := Aside0.mk (Kd.R_below (by (with_reducible repeat (first | apply Kd.R_alloc | apply Kd.R_drewN | apply Kd.R_drew)); exact HO106.out) hb)
          have n2_ := Aside0.mk (Kd.R_below (by (with_reducible repeat (first | apply Kd.R_alloc | apply Kd.R_drewN | apply Kd.R_drew)); exact HO109.out) hb)
          have n3_ := Aside0.mk (Kd.R_below (by (with_reducible repeat (first | apply Kd.R_alloc | apply Kd.R_drewN | apply Kd.R_drew)); exact HO112.out) hb)
          have n4_ := Aside0.mk (Kd.R_below (by (with_reducible repeat (first | apply Kd.R_alloc | apply Kd.R_drewN | apply Kd.R_drew)); exact HO117.out) hb)
          have n5_ := Aside0.mk (blk_below (g := gb113) (o := .cells #[.slice Ao9 t101.length co9, .slice Ao12 t104.length co12] 24 (0, 0)) (by (with_reducible repeat (first | refine blk_drewN ?_ _ | refine blk_drew ?_ | refine blk_alloc ?_ _)); exact BK113.out) hb)
          have n6_ := Aside0.mk (blk_below (g := gb114) (o := .cells #[.slice Ao13 t107.length co13, .slice Ao15 t110.length co15] 25 (0, 0)) (by (with_reducible repeat (first | refine blk_drewN ?_ _ | refine blk_drew ?_ | refine blk_alloc ?_ _)); exact BK114.out) hb)
          have n7_ := Aside0.mk (below_step (by repeat (first | (with_reducible first | exact HB.out | apply below_alloc | apply pw_below_drewN | apply below_drew1 | refine below_set ?_ GE113.out | refine below_set ?_ GE114.out) | exact HB.out)) hb)
          clear HO103
          clear HO106
          clear HO109
          clear HO112
          clear HO117
          clear BK113
          clear BK114
          clear HB
          have HO103 := n0_
          have HO106 := n1_
          have HO109 := n2_
          have HO112 := n3_
          have HO117 := n4_
          have BK113 := n5_
          have BK114 := n6_
          have HB := n7_
          clear n0_ n1_ n2_ n3_ n4_ n5_ n6_ n7_
          (try clear hb)
          (try clear hb2)
          (try clear hk)
          (try clear hi)
          refine hK.out _ _ ⟨(blk_cell BK113.out 0).trans rfl, (blk_cell BK113.out 1).trans rfl, HS2_⟩ (fun hHeld => ?_)
          clear hK K
          refine norm_ (a' := ?_) ?_ ?_
          rotate_left
          · show Act.put _ (some 31) _ = _
            simp only [Act.put, List.setIfInBounds_toArray, List.set_cons_zero, List.set_cons_succ, i64_w, i32_w]
            rfl
          refine pure_ (i := 15) (N := some 32) (v := ?_) (a' := ?_) #[true, true, true, true, true, true, true, true, true, true, true, true, true, true, true, true, false] rfl rfl (any_of HT_.out (by kernel_rfl)) (fun _ _ _ h => h) (Or.inl ⟨by rfl, ?_⟩) ?_ ?_
          rotate_left
          · intro w'
            go_simp
            with_reducible rfl
          rotate_left
          · simp only [Act.put, List.setIfInBounds_toArray, List.set_cons_zero, List.set_cons_succ, i64_w, i32_w]
            rfl
          refine pure_ (i := 16) (N := some 33) (v := ?_) (a' := ?_) #[true, true, true, true, true, true, true, true, true, true, true, true, true, true, true, true, true] rfl rfl (any_of HT_.out (by kernel_rfl)) (fun _ _ _ h => h) (Or.inl ⟨by rfl, ?_⟩) ?_ ?_
          rotate_left
          · intro w'
            go_simp
            with_reducible rfl
          rotate_left
          · simp only [Act.put, List.setIfInBounds_toArray, List.set_cons_zero, List.set_cons_succ, i64_w, i32_w]
            rfl
          refine done_ (done_of HT_.out (by kernel_rfl)) ?_
          try go_wp2
          go_meet
          case rel => exact ⟨_, (((rd t115 0) != t121)), (by first | rfl | (simp; done) | (simp [*]; done)), H', ⟨by first | omega | exact Nat.le_refl _⟩, ⟨by (with_reducible repeat (first | apply Kd.R_alloc | apply Kd.R_drewN | apply Kd.R_drew)); exact Kd.R_mono HO103.out (fun _ hk => (by first | exact ⟨hk.1.1, ⟨hk.1.2.1, hk.1.2.2⟩⟩ | exact hk | exact ⟨hk.1, hk.2.1, hk.2.2.1⟩))⟩, ⟨by (with_reducible repeat (first | apply Kd.R_alloc | apply Kd.R_drewN | apply Kd.R_drew)); exact Kd.R_mono HO106.out (fun _ hk => (by first | exact ⟨hk.1.1, ⟨hk.1.2.1, hk.1.2.2⟩⟩ | exact hk | exact ⟨hk.1, hk.2.1, hk.2.2.1⟩))⟩, ⟨by (with_reducible repeat (first | apply Kd.R_alloc | apply Kd.R_drewN | apply Kd.R_drew)); exact Kd.R_mono HO109.out (fun _ hk => (by first | exact ⟨hk.1.1, ⟨hk.1.2.1, hk.1.2.2⟩⟩ | exact hk | exact ⟨hk.1, hk.2.1, hk.2.2.1⟩))⟩, ⟨by (with_reducible repeat (first | apply Kd.R_alloc | apply Kd.R_drewN | apply Kd.R_drew)); exact Kd.R_mono HO112.out (fun _ hk => (by first | exact ⟨hk.1.1, ⟨hk.1.2.1, hk.1.2.2⟩⟩ | exact hk | exact ⟨hk.1, hk.2.1, hk.2.2.1⟩))⟩, ⟨by (with_reducible repeat (first | refine blk_drewN ?_ _ | refine blk_drew ?_ | refine blk_alloc ?_ _)); exact BK113.out⟩, ⟨by (with_reducible repeat (first | refine blk_drewN ?_ _ | refine blk_drew ?_ | refine blk_alloc ?_ _)); exact BK114.out⟩, ⟨by repeat (first | (with_reducible first | exact HB.out | apply below_alloc | apply pw_below_drewN | apply below_drew1 | refine below_set ?_ GE113.out | refine below_set ?_ GE114.out) | exact HB.out)⟩⟩
        · rw [if_neg c23] at H
          exact absurd H (by simp)
    · replace c19 := Bool.eq_false_iff.mpr c19
      subst c19
      have H1 : (imprimaturlaw07_EnterStart.j0 k t118 true t101 t104) = some r := by rw [if_neg (show ¬ (false = true) by decide)] at H; exact H
      clear H
      have H := H1
      clear H1
      have H' := Aside0.mk H
      clear H
      try go_wp2
      (try (rw [drewN_self w16]; generalize hq_ : World.drewN w16 _ = w16; have n0_ : Aside0 (Kd.R (Kd.int .i64) 3 w16 w.heap.size (fun k_ => some k_ ≠ (.slice Ao12 t104.length co12 : Value).ownBlock ∧ some k_ ≠ (.slice Ao13 t107.length co13 : Value).ownBlock ∧ some k_ ≠ (.slice Ao15 t110.length co15 : Value).ownBlock ∧ some k_ ≠ (.slice Ao17 t115.length co17 : Value).ownBlock) (.slice Ao9 t101.length co9) t101) := ⟨by rw [← hq_]; exact (by (with_reducible repeat (first | apply Kd.R_alloc | apply Kd.R_drewN | apply Kd.R_drew)); exact Kd.R_mono HO103.out (fun _ hk => (by first | exact ⟨hk.1.1, ⟨hk.1.2.1, ⟨hk.1.2.2, hk.2⟩⟩⟩ | exact hk | exact ⟨hk.1, hk.2.1, hk.2.2.1⟩)))⟩; have n1_ : Aside0 (Kd.R (Kd.int .i64) 3 w16 w.heap.size (fun k_ => some k_ ≠ (.slice Ao9 t101.length co9 : Value).ownBlock ∧ some k_ ≠ (.slice Ao13 t107.length co13 : Value).ownBlock ∧ some k_ ≠ (.slice Ao15 t110.length co15 : Value).ownBlock ∧ some k_ ≠ (.slice Ao17 t115.length co17 : Value).ownBlock) (.slice Ao12 t104.length co12) t104) := ⟨by rw [← hq_]; exact (by (with_reducible repeat (first | apply Kd.R_alloc | apply Kd.R_drewN | apply Kd.R_drew)); exact Kd.R_mono HO106.out (fun _ hk => (by first | exact ⟨hk.1.1, ⟨hk.1.2.1, ⟨hk.1.2.2, hk.2⟩⟩⟩ | exact hk | exact ⟨hk.1, hk.2.1, hk.2.2.1⟩)))⟩; have n2_ : Aside0 (Kd.R (Kd.int .i64) 3 w16 w.heap.size (fun k_ => some k_ ≠ (.slice Ao9 t101.length co9 : Value).ownBlock ∧ some k_ ≠ (.slice Ao12 t104.length co12 : Value).ownBlock ∧ some k_ ≠ (.slice Ao15 t110.length co15 : Value).ownBlock ∧ some k_ ≠ (.slice Ao17 t115.length co17 : Value).ownBlock) (.slice Ao13 t107.length co13) t107) := ⟨by rw [← hq_]; exact (by (with_reducible repeat (first | apply Kd.R_alloc | apply Kd.R_drewN | apply Kd.R_drew)); exact Kd.R_mono HO109.out (fun _ hk => (by first | exact ⟨hk.1.1, ⟨hk.1.2.1, ⟨hk.1.2.2, hk.2⟩⟩⟩ | exact hk | exact ⟨hk.1, hk.2.1, hk.2.2.1⟩)))⟩; have n3_ : Aside0 (Kd.R (Kd.int .i64) 3 w16 w.heap.size (fun k_ => some k_ ≠ (.slice Ao9 t101.length co9 : Value).ownBlock ∧ some k_ ≠ (.slice Ao12 t104.length co12 : Value).ownBlock ∧ some k_ ≠ (.slice Ao13 t107.length co13 : Value).ownBlock ∧ some k_ ≠ (.slice Ao17 t115.length co17 : Value).ownBlock) (.slice Ao15 t110.length co15) t110) := ⟨by rw [← hq_]; exact (by (with_reducible repeat (first | apply Kd.R_alloc | apply Kd.R_drewN | apply Kd.R_drew)); exact Kd.R_mono HO112.out (fun _ hk => (by first | exact ⟨hk.1.1, ⟨hk.1.2.1, ⟨hk.1.2.2, hk.2⟩⟩⟩ | exact hk | exact ⟨hk.1, hk.2.1, hk.2.2.1⟩)))⟩; have n4_ : Aside0 (Kd.R (Kd.int .i64) 3 w16 w.heap.size (fun k_ => some k_ ≠ (.slice Ao9 t101.length co9 : Value).ownBlock ∧ some k_ ≠ (.slice Ao12 t104.length co12 : Value).ownBlock ∧ some k_ ≠ (.slice Ao13 t107.length co13 : Value).ownBlock ∧ some k_ ≠ (.slice Ao15 t110.length co15 : Value).ownBlock) (.slice Ao17 t115.length co17) t115) := ⟨by rw [← hq_]; exact (by (with_reducible repeat (first | apply Kd.R_alloc | apply Kd.R_drewN | apply Kd.R_drew)); exact Kd.R_mono HO117.out (fun _ hk => (by first | exact ⟨hk.1.1.1.2, ⟨hk.1.1.2, ⟨hk.1.2, hk.2⟩⟩⟩ | exact hk | exact ⟨hk.1, hk.2.1, hk.2.2.1⟩)))⟩; have n5_ : Aside0 (w16.heap[gb113]? = some (.cells #[.slice Ao9 t101.length co9, .slice Ao12 t104.length co12] 24 (0, 0))) := ⟨by rw [← hq_]; exact (by (with_reducible repeat (first | refine blk_drewN ?_ _ | refine blk_drew ?_ | refine blk_alloc ?_ _)); exact BK113.out)⟩; have n6_ : Aside0 (w16.heap[gb114]? = some (.cells #[.slice Ao13 t107.length co13, .slice Ao15 t110.length co15] 25 (0, 0))) := ⟨by rw [← hq_]; exact (by (with_reducible repeat (first | refine blk_drewN ?_ _ | refine blk_drew ?_ | refine blk_alloc ?_ _)); exact BK114.out)⟩; have n7_ : Aside0 (Below w.heap.size w w16) := ⟨by rw [← hq_]; exact (by repeat (first | (with_reducible first | exact HB.out | apply below_alloc | apply pw_below_drewN | apply below_drew1 | refine below_set ?_ GE113.out | refine below_set ?_ GE114.out) | exact HB.out))⟩; clear HO103 HO106 HO109 HO112 HO117 BK113 BK114 HB hq_; have HO103 := n0_; have HO106 := n1_; have HO109 := n2_; have HO112 := n3_; have HO117 := n4_; have BK113 := n5_; have BK114 := n6_; have HB := n7_; clear n0_ n1_ n2_ n3_ n4_ n5_ n6_ n7_))
      have n0_ := Aside0.mk (Kd.R_drew HO103.out)
      have n1_ := Aside0.mk (Kd.R_drew HO106.out)
      have n2_ := Aside0.mk (Kd.R_drew HO109.out)
      have n3_ := Aside0.mk (Kd.R_drew HO112.out)
      have n4_ := Aside0.mk (Kd.R_drew HO117.out)
      have n5_ := Aside0.mk (blk_drew BK113.out)
      have n6_ := Aside0.mk (blk_drew BK114.out)
      have n7_ := Aside0.mk (below_drew1 HB.out)
      clear HO103
      clear HO106
      clear HO109
      clear HO112
      clear HO117
      clear BK113
      clear BK114
      clear HB
      have HO103 := n0_
      have HO106 := n1_
      have HO109 := n2_
      have HO112 := n3_
      have HO117 := n4_
      have BK113 := n5_
      have BK114 := n6_
      have HB := n7_
      clear n0_ n1_ n2_ n3_ n4_ n5_ n6_ n7_
      refine start_ (n := 17) (S := fun w' => w'.cell? ⟨gb113, 0, none⟩ = some (.slice Ao9 t101.length co9) ∧ w'.cell? ⟨gb113, 1, none⟩ = some (.slice Ao12 t104.length co12)) (ds := []) #[false, false, false, false, false, false, false, false, false, false, false, false, false, false, false, false, false] (by kernel_rfl) rfl rfl ⟨(blk_cell BK113.out 0).trans rfl, (blk_cell BK113.out 1).trans rfl⟩ (fun hHeld => ?_); refine with_tabW imprimaturlaw07_EnterStart.tab4 imprimaturlaw07_EnterStart.bits4 (fun HT_ HW_ => ?_)
      generalize w16.drew = w28 at HO103 HO106 HO109 HO112 HO117 BK113 BK114 HB hHeld ⊢
      refine pure_ (i := 1) (N := some 18) (v := ?_) (a' := ?_) #[false, true, false, false, false, false, false, false, false, false, false, false, false, false, false, false, false] rfl rfl (any_of HT_.out (by kernel_rfl)) (fun _ _ _ h => h) (Or.inl ⟨by rfl, ?_⟩) ?_ ?_
      rotate_left
      · intro w'
        go_simp
        with_reducible rfl
      rotate_left
      · simp only [Act.put, List.setIfInBounds_toArray, List.set_cons_zero, List.set_cons_succ, i64_w, i32_w]
        rfl
      refine take_ (i := 0) (N := some 17) (v := ?_) (a' := ?_) #[true, true, false, false, false, false, false, false, false, false, false, false, false, false, false, false, false] rfl rfl (take_ofW HT_.out HW_.out (by kernel_rfl)) (fun _ _ _ h => h) (Or.inl ⟨by rfl, ?_⟩) hHeld ?_ ?_
      rotate_left
      · rintro w' ⟨s0, s1⟩
        go_simp
        with_reducible rfl
      rotate_left
      · simp only [Act.put, List.setIfInBounds_toArray, List.set_cons_zero, List.set_cons_succ, i64_w, i32_w]
        rfl
      refine one_ (i := 2) (N := some 19) #[true, true, true, false, false, false, false, false, false, false, false, false, false, false, false, false, false] rfl rfl (one_of HT_.out (by kernel_rfl)) (by decide) (fun K hK => ?_)
      refine goes_ Try.func15 (by kernel_rfl) rfl #[.agg #[.slice Ao9 t101.length co9, .slice Ao12 t104.length co12], .int .u32 t118] (by rfl) rfl rfl (by (try simp only [List.map_toArray, List.map_cons, List.map_nil]); first | done | rfl | (simp only [List.length_drop, List.length_take]; rfl)) ?_
      with_reducible refine (shape_Proper.calls k _ _ t101 _ _ t104 t118 false _ ?side1 ?side2 ?side3 ?side4 A18.out).mono ?_
      (case side1 => repeat (first | exact (Kd.R_reads' HO103.out).2.2 | (with_reducible refine Kd.C_alloc ?_ _) | (with_reducible refine Kd.C_drewN ?_ _) | (with_reducible refine Kd.C_drew ?_)))
      (case side2 => exact (Kd.R_reads' HO103.out).2.1)
      (case side3 => repeat (first | exact (Kd.R_reads' HO106.out).2.2 | (with_reducible refine Kd.C_alloc ?_ _) | (with_reducible refine Kd.C_drewN ?_ _) | (with_reducible refine Kd.C_drew ?_)))
      (case side4 => exact (Kd.R_reads' HO106.out).2.1)
      rintro e w29 ⟨rfl, hb⟩
      refine ⟨_, rfl, ?_⟩
      have n0_ := Aside0.mk (Kd.R_below (by (with_reducible repeat (first | apply Kd.R_alloc | apply Kd.R_drewN | apply Kd.R_drew)); exact HO103.out) hb)
      have n1_ := Aside0.mk (Kd.R_below (by (with_reducible repeat (first | apply Kd.R_alloc | apply Kd.R_drewN | apply Kd.R_drew)); exact HO106.out) hb)
      have n2_ := Aside0.mk (Kd.R_below (by (with_reducible repeat (first | apply Kd.R_alloc | apply Kd.R_drewN | apply Kd.R_drew)); exact HO109.out) hb)
      have n3_ := Aside0.mk (Kd.R_below (by (with_reducible repeat (first | apply Kd.R_alloc | apply Kd.R_drewN | apply Kd.R_drew)); exact HO112.out) hb)
      have n4_ := Aside0.mk (Kd.R_below (by (with_reducible repeat (first | apply Kd.R_alloc | apply Kd.R_drewN | apply Kd.R_drew)); exact HO117.out) hb)
      have n5_ := Aside0.mk (blk_below (g := gb113) (o := .cells #[.slice Ao9 t101.length co9, .slice Ao12 t104.length co12] 24 (0, 0)) (by (with_reducible repeat (first | refine blk_drewN ?_ _ | refine blk_drew ?_ | refine blk_alloc ?_ _)); exact BK113.out) hb)
      have n6_ := Aside0.mk (blk_below (g := gb114) (o := .cells #[.slice Ao13 t107.length co13, .slice Ao15 t110.length co15] 25 (0, 0)) (by (with_reducible repeat (first | refine blk_drewN ?_ _ | refine blk_drew ?_ | refine blk_alloc ?_ _)); exact BK114.out) hb)
      have n7_ := Aside0.mk (below_step (by repeat (first | (with_reducible first | exact HB.out | apply below_alloc | apply pw_below_drewN | apply below_drew1 | refine below_set ?_ GE113.out | refine below_set ?_ GE114.out) | exact HB.out)) hb)
      clear HO103
      clear HO106
      clear HO109
      clear HO112
      clear HO117
      clear BK113
      clear BK114
      clear HB
      have HO103 := n0_
      have HO106 := n1_
      have HO109 := n2_
      have HO112 := n3_
      have HO117 := n4_
      have BK113 := n5_
      have BK114 := n6_
      have HB := n7_
      clear n0_ n1_ n2_ n3_ n4_ n5_ n6_ n7_
      (try clear hb)
      (try clear hb2)
      (try clear hk)
      (try clear hi)
      refine hK.out _ _ ⟨(blk_cell BK113.out 0).trans rfl, (blk_cell BK113.out 1).trans rfl⟩ (fun hHeld => ?_)
      clear hK K
      refine norm_ (a' := ?_) ?_ ?_
      rotate_left
      · show Act.put _ (some 19) _ = _
        simp only [Act.put, List.setIfInBounds_toArray, List.set_cons_zero, List.set_cons_succ, i64_w, i32_w]
        rfl
      refine pure_ (i := 3) (N := some 20) (v := ?_) (a' := ?_) #[true, true, true, true, false, false, false, false, false, false, false, false, false, false, false, false, false] rfl rfl (any_of HT_.out (by kernel_rfl)) (fun _ _ _ h => h) (Or.inl ⟨by rfl, ?_⟩) ?_ ?_
      rotate_left
      · intro w'
        go_simp
        with_reducible rfl
      rotate_left
      · simp only [Act.put, List.setIfInBounds_toArray, List.set_cons_zero, List.set_cons_succ, i64_w, i32_w]
        rfl
      refine pure_ (i := 4) (N := some 21) (v := ?_) (a' := ?_) #[true, true, true, true, true, false, false, false, false, false, false, false, false, false, false, false, false] rfl rfl (any_of HT_.out (by kernel_rfl)) (fun _ _ _ h => h) (Or.inl ⟨by rfl, ?_⟩) ?_ ?_
      rotate_left
      · intro w'
        go_simp
        with_reducible rfl
      rotate_left
      · simp only [Act.put, List.setIfInBounds_toArray, List.set_cons_zero, List.set_cons_succ, i64_w, i32_w]
        rfl
      refine pure_ (i := 5) (N := some 22) (v := undef) (a' := ?_) #[true, true, true, true, true, true, false, false, false, false, false, false, false, false, false, false, false] rfl rfl (any_of HT_.out (by kernel_rfl)) (fun _ _ _ h => h) (Or.inr ⟨by rfl, rfl⟩) ?_ ?_
      rotate_left
      · simp only [Act.put, List.setIfInBounds_toArray, List.set_cons_zero, List.set_cons_succ, i64_w, i32_w]
        rfl
      refine pure_ (i := 6) (N := some 23) (v := undef) (a' := ?_) #[true, true, true, true, true, true, true, false, false, false, false, false, false, false, false, false, false] rfl rfl (any_of HT_.out (by kernel_rfl)) (fun _ _ _ h => h) (Or.inr ⟨by rfl, rfl⟩) ?_ ?_
      rotate_left
      · simp only [Act.put, List.setIfInBounds_toArray, List.set_cons_zero, List.set_cons_succ, i64_w, i32_w]
        rfl
      refine pure_ (i := 7) (N := some 24) (v := undef) (a' := ?_) #[true, true, true, true, true, true, true, true, false, false, false, false, false, false, false, false, false] rfl rfl (any_of HT_.out (by kernel_rfl)) (fun _ _ _ h => h) (Or.inr ⟨by rfl, rfl⟩) ?_ ?_
      rotate_left
      · simp only [Act.put, List.setIfInBounds_toArray, List.set_cons_zero, List.set_cons_succ, i64_w, i32_w]
        rfl
      refine pure_ (i := 8) (N := some 25) (v := ?_) (a' := ?_) #[true, true, true, true, true, true, true, true, true, false, false, false, false, false, false, false, false] rfl rfl (any_of HT_.out (by kernel_rfl)) (fun _ _ _ h => h) (Or.inl ⟨by rfl, ?_⟩) ?_ ?_
      rotate_left
      · intro w'
        go_simp
        with_reducible rfl
      rotate_left
      · simp only [Act.put, List.setIfInBounds_toArray, List.set_cons_zero, List.set_cons_succ, i64_w, i32_w]
        rfl
      refine pure_ (i := 9) (N := some 26) (v := ?_) (a' := ?_) #[true, true, true, true, true, true, true, true, true, true, false, false, false, false, false, false, false] rfl rfl (any_of HT_.out (by kernel_rfl)) (fun _ _ _ h => h) (Or.inl ⟨by rfl, ?_⟩) ?_ ?_
      rotate_left
      · intro w'
        go_simp
        with_reducible rfl
      rotate_left
      · simp only [Act.put, List.setIfInBounds_toArray, List.set_cons_zero, List.set_cons_succ, i64_w, i32_w]
        rfl
      refine pure_ (i := 10) (N := some 27) (v := undef) (a' := ?_) #[true, true, true, true, true, true, true, true, true, true, true, false, false, false, false, false, false] rfl rfl (any_of HT_.out (by kernel_rfl)) (fun _ _ _ h => h) (Or.inr ⟨by rfl, rfl⟩) ?_ ?_
      rotate_left
      · simp only [Act.put, List.setIfInBounds_toArray, List.set_cons_zero, List.set_cons_succ, i64_w, i32_w]
        rfl
      refine pure_ (i := 11) (N := some 28) (v := undef) (a' := ?_) #[true, true, true, true, true, true, true, true, true, true, true, true, false, false, false, false, false] rfl rfl (any_of HT_.out (by kernel_rfl)) (fun _ _ _ h => h) (Or.inr ⟨by rfl, rfl⟩) ?_ ?_
      rotate_left
      · simp only [Act.put, List.setIfInBounds_toArray, List.set_cons_zero, List.set_cons_succ, i64_w, i32_w]
        rfl
      refine pure_ (i := 12) (N := some 29) (v := undef) (a' := ?_) #[true, true, true, true, true, true, true, true, true, true, true, true, true, false, false, false, false] rfl rfl (any_of HT_.out (by kernel_rfl)) (fun _ _ _ h => h) (Or.inr ⟨by rfl, rfl⟩) ?_ ?_
      rotate_left
      · simp only [Act.put, List.setIfInBounds_toArray, List.set_cons_zero, List.set_cons_succ, i64_w, i32_w]
        rfl
      refine pure_ (i := 13) (N := some 30) (v := undef) (a' := ?_) #[true, true, true, true, true, true, true, true, true, true, true, true, true, true, false, false, false] rfl rfl (any_of HT_.out (by kernel_rfl)) (fun _ _ _ h => h) (Or.inr ⟨by rfl, rfl⟩) ?_ ?_
      rotate_left
      · simp only [Act.put, List.setIfInBounds_toArray, List.set_cons_zero, List.set_cons_succ, i64_w, i32_w]
        rfl
      refine pure_ (i := 14) (N := some 31) (v := undef) (a' := ?_) #[true, true, true, true, true, true, true, true, true, true, true, true, true, true, true, false, false] rfl rfl (any_of HT_.out (by kernel_rfl)) (fun _ _ _ h => h) (Or.inr ⟨by rfl, rfl⟩) ?_ ?_
      rotate_left
      · simp only [Act.put, List.setIfInBounds_toArray, List.set_cons_zero, List.set_cons_succ, i64_w, i32_w]
        rfl
      refine pure_ (i := 15) (N := some 32) (v := undef) (a' := ?_) #[true, true, true, true, true, true, true, true, true, true, true, true, true, true, true, true, false] rfl rfl (any_of HT_.out (by kernel_rfl)) (fun _ _ _ h => h) (Or.inr ⟨by rfl, rfl⟩) ?_ ?_
      rotate_left
      · simp only [Act.put, List.setIfInBounds_toArray, List.set_cons_zero, List.set_cons_succ, i64_w, i32_w]
        rfl
      refine pure_ (i := 16) (N := some 33) (v := ?_) (a' := ?_) #[true, true, true, true, true, true, true, true, true, true, true, true, true, true, true, true, true] rfl rfl (any_of HT_.out (by kernel_rfl)) (fun _ _ _ h => h) (Or.inl ⟨by rfl, ?_⟩) ?_ ?_
      rotate_left
      · intro w'
        go_simp
        with_reducible rfl
      rotate_left
      · simp only [Act.put, List.setIfInBounds_toArray, List.set_cons_zero, List.set_cons_succ, i64_w, i32_w]
        rfl
      refine done_ (done_of HT_.out (by kernel_rfl)) ?_
      try go_wp2
      go_meet
      case rel => exact ⟨_, (true), (by first | rfl | (simp; done) | (simp [*]; done)), H', ⟨by first | omega | exact Nat.le_refl _⟩, ⟨by (with_reducible repeat (first | apply Kd.R_alloc | apply Kd.R_drewN | apply Kd.R_drew)); exact Kd.R_mono HO103.out (fun _ hk => (by first | exact ⟨hk.1.1, ⟨hk.1.2.1, hk.1.2.2⟩⟩ | exact hk | exact ⟨hk.1, hk.2.1, hk.2.2.1⟩))⟩, ⟨by (with_reducible repeat (first | apply Kd.R_alloc | apply Kd.R_drewN | apply Kd.R_drew)); exact Kd.R_mono HO106.out (fun _ hk => (by first | exact ⟨hk.1.1, ⟨hk.1.2.1, hk.1.2.2⟩⟩ | exact hk | exact ⟨hk.1, hk.2.1, hk.2.2.1⟩))⟩, ⟨by (with_reducible repeat (first | apply Kd.R_alloc | apply Kd.R_drewN | apply Kd.R_drew)); exact Kd.R_mono HO109.out (fun _ hk => (by first | exact ⟨hk.1.1, ⟨hk.1.2.1, hk.1.2.2⟩⟩ | exact hk | exact ⟨hk.1, hk.2.1, hk.2.2.1⟩))⟩, ⟨by (with_reducible repeat (first | apply Kd.R_alloc | apply Kd.R_drewN | apply Kd.R_drew)); exact Kd.R_mono HO112.out (fun _ hk => (by first | exact ⟨hk.1.1, ⟨hk.1.2.1, hk.1.2.2⟩⟩ | exact hk | exact ⟨hk.1, hk.2.1, hk.2.2.1⟩))⟩, ⟨by (with_reducible repeat (first | refine blk_drewN ?_ _ | refine blk_drew ?_ | refine blk_alloc ?_ _)); exact BK113.out⟩, ⟨by (with_reducible repeat (first | refine blk_drewN ?_ _ | refine blk_drew ?_ | refine blk_alloc ?_ _)); exact BK114.out⟩, ⟨by repeat (first | (with_reducible first | exact HB.out | apply below_alloc | apply pw_below_drewN | apply below_drew1 | refine below_set ?_ GE113.out | refine below_set ?_ GE114.out) | exact HB.out)⟩⟩
  case rest =>
    clear HC5
    try clear c1
    try clear p1
    try clear q1
    try clear hx1
    try clear qi1
    try clear c2
    try clear p2
    try clear c3
    try clear p12
    try clear q12
    try clear hx12
    try clear qi12
    try clear c15
    try clear c19
    try clear c20
    try clear c20b0
    try clear c20b1
    try clear c20b2
    try clear c23
    try clear c23b0
    try clear c23b1
    try clear hx120_0
    try clear p120
    try clear q120
    obtain ⟨kq, x33_4, rfl, HA, HJ4, HO_114000, HO_114001, HO_115000, HO_115001, BK113, BK114, HB⟩ := hcut
    cases kq with
    | zero => exact absurd HA.out (by simp [imprimaturlaw07_EnterStart.j0])
    | succ kj4 =>
      have H := HA.out
      clear HA
      simp only [imprimaturlaw07_EnterStart.j0] at H
      by_cases c30 : x33_4 = true
      · subst c30
        have H1 : (some false) = some r := by rw [if_pos rfl] at H; exact H
        clear H
        have H := H1
        clear H1
        obtain rfl := Option.some.inj H
        go_wp2
        go_ret
        exact ⟨by first | rfl | (simp [errW_none, errW_some] <;> rfl) | (simp [*, errW_none, errW_some] <;> rfl), by repeat (first | (with_reducible first | exact HB.out | apply below_alloc | apply pw_below_drewN | apply below_drew1 | refine below_set ?_ GE113.out | refine below_set ?_ GE114.out) | exact HB.out)⟩
      · replace c30 := Bool.eq_false_iff.mpr c30
        subst c30
        have H1 : (imprimaturlaw07_EnterStart.l0 kj4 t118 (t101.length : Int) 0 t101 t104) = some r := by rw [if_neg (show ¬ (false = true) by decide)] at H; exact H
        clear H
        have H := H1
        clear H1
        have H' := Aside0.mk H
        clear H
        have hnb31 := NB113_114.out
        have hnc31 := NB114_113.out
        have hcz32_0 : wc.cell? ⟨gb113, 0, none⟩ = some (.slice Ao9 t101.length co9) := (blk_cell BK113.out 0).trans rfl
        have hcz32_1 : wc.cell? ⟨gb113, 1, none⟩ = some (.slice Ao12 t104.length co12) := (blk_cell BK113.out 1).trans rfl
        have hfz32_0 := blk_frozen BK113.out 0
        have hfz32_1 := blk_frozen BK113.out 1
        go_wp2
        go_loopg [37] kj4 (fun kq v37 w' => ∃ (x37_2 : Int), v37 = .int .i64 x37_2 ∧ Aside0 (imprimaturlaw07_EnterStart.l0 kq t118 (t101.length : Int) x37_2 t101 t104 = some r) ∧ Aside0 (kq ≤ kj4) ∧ Aside0 (Kd.R (Kd.int .i64) 3 w' w.heap.size (fun k_ => some k_ ≠ ((.slice Ao12 t104.length co12) : Value).ownBlock ∧ some k_ ≠ ((.slice Ao13 t107.length co13) : Value).ownBlock ∧ some k_ ≠ ((.slice Ao15 t110.length co15) : Value).ownBlock) (.slice Ao9 t101.length co9) t101) ∧ Aside0 (Kd.R (Kd.int .i64) 3 w' w.heap.size (fun k_ => some k_ ≠ ((.slice Ao9 t101.length co9) : Value).ownBlock ∧ some k_ ≠ ((.slice Ao13 t107.length co13) : Value).ownBlock ∧ some k_ ≠ ((.slice Ao15 t110.length co15) : Value).ownBlock) (.slice Ao12 t104.length co12) t104) ∧ Aside0 (Kd.R (Kd.int .i64) 3 w' w.heap.size (fun k_ => some k_ ≠ ((.slice Ao9 t101.length co9) : Value).ownBlock ∧ some k_ ≠ ((.slice Ao12 t104.length co12) : Value).ownBlock ∧ some k_ ≠ ((.slice Ao15 t110.length co15) : Value).ownBlock) (.slice Ao13 t107.length co13) t107) ∧ Aside0 (Kd.R (Kd.int .i64) 3 w' w.heap.size (fun k_ => some k_ ≠ ((.slice Ao9 t101.length co9) : Value).ownBlock ∧ some k_ ≠ ((.slice Ao12 t104.length co12) : Value).ownBlock ∧ some k_ ≠ ((.slice Ao13 t107.length co13) : Value).ownBlock) (.slice Ao15 t110.length co15) t110) ∧ Aside0 (w'.heap[gb113]? = some (.cells #[(.slice Ao9 t101.length co9), (.slice Ao12 t104.length co12)] 24 (0, 0))) ∧ Aside0 (w'.heap[gb114]? = some (.cells #[(.slice Ao13 t107.length co13), (.slice Ao15 t110.length co15)] 25 (0, 0))) ∧ Aside0 (Below w.heap.size w w'))
        case atStart => exact ⟨(0), (by first | rfl | (simp; done) | (simp [*]; done)), H', ⟨Nat.le_refl _⟩, ⟨by (with_reducible repeat (first | apply Kd.R_alloc | apply Kd.R_drewN | apply Kd.R_drew)); exact HO_114000.out⟩, ⟨by (with_reducible repeat (first | apply Kd.R_alloc | apply Kd.R_drewN | apply Kd.R_drew)); exact HO_114001.out⟩, ⟨by (with_reducible repeat (first | apply Kd.R_alloc | apply Kd.R_drewN | apply Kd.R_drew)); exact HO_115000.out⟩, ⟨by (with_reducible repeat (first | apply Kd.R_alloc | apply Kd.R_drewN | apply Kd.R_drew)); exact HO_115001.out⟩, ⟨by (with_reducible repeat (first | refine blk_drewN ?_ _ | refine blk_drew ?_ | refine blk_alloc ?_ _)); exact BK113.out⟩, ⟨by (with_reducible repeat (first | refine blk_drewN ?_ _ | refine blk_drew ?_ | refine blk_alloc ?_ _)); exact BK114.out⟩, ⟨by repeat (first | (with_reducible first | exact HB.out | apply below_alloc | apply pw_below_drewN | apply below_drew1 | refine below_set ?_ GE113.out | refine below_set ?_ GE114.out) | exact HB.out)⟩⟩
        case round =>
          clear H'
          try clear c1
          try clear p1
          try clear q1
          try clear hx1
          try clear qi1
          try clear c2
          try clear p2
          try clear c3
          try clear p12
          try clear q12
          try clear hx12
          try clear qi12
          try clear c15
          try clear c19
          try clear c20
          try clear c20b0
          try clear c20b1
          try clear c20b2
          try clear c23
          try clear c23b0
          try clear c23b1
          try clear c30
          try clear c31
          try clear hcz32_0
          try clear hcz32_1
          try clear hfz32_0
          try clear hfz32_1
          try clear hx120_0
          try clear p1
          try clear p12
          try clear p120
          try clear p2
          try clear q1
          try clear q12
          try clear q120
          obtain ⟨x37_2, rfl, HA, HK2, HO_114000, HO_114001, HO_115000, HO_115001, BK113, BK114, HB⟩ := hrel
          cases gk with
          | zero => exact absurd HA.out (by simp [imprimaturlaw07_EnterStart.l0])
          | succ k2 =>
            have H := HA.out
            clear HA
            simp only [imprimaturlaw07_EnterStart.l0] at H
            by_cases c33 : x37_2 < (t101.length : Int)
            · rw [if_pos c33] at H
              have c33b0 : decide (x37_2 < (t101.length : Int)) = true := decide_eq_true c33
              clear c33
              obtain ⟨ji34, hji34⟩ : ∃ j_ : Int, (IntKind.u64.wrap (x37_2)) = j_ := ⟨_, rfl⟩
              replace H : (if 0 ≤ (ji34) then (if (Go.bits .and .u32 (shr .u32 t118 (ji34)) 1) = 1 then (if 0 ≤ x37_2 then (if x37_2 < (t101.length : Int) then (if (rd t101 x37_2) = 1 then ((shape_Kids.f k2 t101 t104 x37_2).bind fun t124 => (if (t124.length : Int) > 0 then ((shape_Initial.f k2 t101 t104 x37_2).bind fun t127 => (if 0 ≤ (IntKind.u64.wrap (t127)) then (if (Go.bits .and .u32 (shr .u32 t118 (IntKind.u64.wrap (t127))) 1) = 0 then (some false) else (imprimaturlaw07_EnterStart.l0 k2 t118 (t101.length : Int) (wrap64 (x37_2 + 1)) t101 t104)) else (none))) else (imprimaturlaw07_EnterStart.l0 k2 t118 (t101.length : Int) (wrap64 (x37_2 + 1)) t101 t104))) else (imprimaturlaw07_EnterStart.l0 k2 t118 (t101.length : Int) (wrap64 (x37_2 + 1)) t101 t104)) else (none)) else (none)) else (imprimaturlaw07_EnterStart.l0 k2 t118 (t101.length : Int) (wrap64 (x37_2 + 1)) t101 t104)) else (none)) = some r := by first | (rw [hji34] at H; exact H) | (simp only [hji34] at H ⊢; exact H)
              by_cases c35 : 0 ≤ (ji34)
              · rw [if_pos c35] at H
                have c35b0 := eq_true c35
                have c35b1 : decide (0 ≤ (ji34)) = true := decide_eq_true c35
                clear c35
                obtain ⟨ji36, hji36⟩ : ∃ j_ : Int, (shr .u32 t118 (ji34)) = j_ := ⟨_, rfl⟩
                replace H : (if (Go.bits .and .u32 (ji36) 1) = 1 then (if 0 ≤ x37_2 then (if x37_2 < (t101.length : Int) then (if (rd t101 x37_2) = 1 then ((shape_Kids.f k2 t101 t104 x37_2).bind fun t124 => (if (t124.length : Int) > 0 then ((shape_Initial.f k2 t101 t104 x37_2).bind fun t127 => (if 0 ≤ (IntKind.u64.wrap (t127)) then (if (Go.bits .and .u32 (shr .u32 t118 (IntKind.u64.wrap (t127))) 1) = 0 then (some false) else (imprimaturlaw07_EnterStart.l0 k2 t118 (t101.length : Int) (wrap64 (x37_2 + 1)) t101 t104)) else (none))) else (imprimaturlaw07_EnterStart.l0 k2 t118 (t101.length : Int) (wrap64 (x37_2 + 1)) t101 t104))) else (imprimaturlaw07_EnterStart.l0 k2 t118 (t101.length : Int) (wrap64 (x37_2 + 1)) t101 t104)) else (none)) else (none)) else (imprimaturlaw07_EnterStart.l0 k2 t118 (t101.length : Int) (wrap64 (x37_2 + 1)) t101 t104)) = some r := by first | (rw [hji36] at H; exact H) | (simp only [hji36] at H ⊢; exact H)
                have hji36_ : (t118 / 2 ^ min (ji34).toNat 32) = ji36 := hji36
                have hji36z : (ji34) ≤ 32 → (t118 / 2 ^ (ji34).toNat) = ji36 := shr_small hji36
                by_cases c37 : (Go.bits .and .u32 (ji36) 1) = 1
                · rw [if_pos c37] at H
                  have c37b0 : ((Go.bits .and .u32 (ji36) 1) == 1) = true := beq_iff_eq.mpr c37
                  have c37b1 : ((Go.bits .and .u32 (ji36) 1) != 1) = false := bne_eq_false_iff_eq.mpr c37
                  clear c37
                  by_cases c38 : 0 ≤ x37_2
                  · rw [if_pos c38] at H
                    have c38b0 : decide (0 ≤ x37_2) = true := decide_eq_true c38
                    clear c38
                    by_cases c39 : x37_2 < (t101.length : Int)
                    · rw [if_pos c39] at H
                      have c39b0 : decide (x37_2 < (t101.length : Int)) = true := decide_eq_true c39
                      clear c39
                      by_cases c40 : (rd t101 x37_2) = 1
                      · rw [if_pos c40] at H
                        have c40b0 : ((rd t101 x37_2) == 1) = true := beq_iff_eq.mpr c40
                        have c40b1 : ((rd t101 x37_2) != 1) = false := bne_eq_false_iff_eq.mpr c40
                        clear c40
                        replace H := Option.bind_eq_some_iff.mp H
                        obtain ⟨t124, A410, H⟩ := H
                        replace H : (if (t124.length : Int) > 0 then ((shape_Initial.f k2 t101 t104 x37_2).bind fun t127 => (if 0 ≤ (IntKind.u64.wrap (t127)) then (if (Go.bits .and .u32 (shr .u32 t118 (IntKind.u64.wrap (t127))) 1) = 0 then (some false) else (imprimaturlaw07_EnterStart.l0 k2 t118 (t101.length : Int) (wrap64 (x37_2 + 1)) t101 t104)) else (none))) else (imprimaturlaw07_EnterStart.l0 k2 t118 (t101.length : Int) (wrap64 (x37_2 + 1)) t101 t104)) = some r := H
                        have A41 := Aside0.mk A410
                        clear A410
                        by_cases c42 : (t124.length : Int) > 0
                        · rw [if_pos c42] at H
                          have c42b0 : decide (0 < (t124.length : Int)) = true := decide_eq_true c42
                          have c42b1 : decide (0 < t124.length) = true := decide_eq_true (by omega)
                          clear c42
                          replace H := Option.bind_eq_some_iff.mp H
                          obtain ⟨t127, A430, H⟩ := H
                          replace H : (if 0 ≤ (IntKind.u64.wrap (t127)) then (if (Go.bits .and .u32 (shr .u32 t118 (IntKind.u64.wrap (t127))) 1) = 0 then (some false) else (imprimaturlaw07_EnterStart.l0 k2 t118 (t101.length : Int) (wrap64 (x37_2 + 1)) t101 t104)) else (none)) = some r := H
                          have A43 := Aside0.mk A430
                          clear A430
                          obtain ⟨ji44, hji44⟩ : ∃ j_ : Int, (IntKind.u64.wrap (t127)) = j_ := ⟨_, rfl⟩
                          replace H : (if 0 ≤ (ji44) then (if (Go.bits .and .u32 (shr .u32 t118 (ji44)) 1) = 0 then (some false) else (imprimaturlaw07_EnterStart.l0 k2 t118 (t101.length : Int) (wrap64 (x37_2 + 1)) t101 t104)) else (none)) = some r := by first | (rw [hji44] at H; exact H) | (simp only [hji44] at H ⊢; exact H)
                          (try rw [hji44] at A41)
                          (try rw [hji44] at A43)
                          by_cases c45 : 0 ≤ (ji44)
                          · rw [if_pos c45] at H
                            have c45b0 := eq_true c45
                            have c45b1 : decide (0 ≤ (ji44)) = true := decide_eq_true c45
                            clear c45
                            obtain ⟨ji46, hji46⟩ : ∃ j_ : Int, (shr .u32 t118 (ji44)) = j_ := ⟨_, rfl⟩
                            replace H : (if (Go.bits .and .u32 (ji46) 1) = 0 then (some false) else (imprimaturlaw07_EnterStart.l0 k2 t118 (t101.length : Int) (wrap64 (x37_2 + 1)) t101 t104)) = some r := by first | (rw [hji46] at H; exact H) | (simp only [hji46] at H ⊢; exact H)
                            (try rw [hji46] at A41)
                            (try rw [hji46] at A43)
                            have hji46_ : (t118 / 2 ^ min (ji44).toNat 32) = ji46 := hji46
                            have hji46z : (ji44) ≤ 32 → (t118 / 2 ^ (ji44).toNat) = ji46 := shr_small hji46
                            by_cases c47 : (Go.bits .and .u32 (ji46) 1) = 0
                            · rw [if_pos c47] at H
                              have c47b0 : ((Go.bits .and .u32 (ji46) 1) == 0) = true := beq_iff_eq.mpr c47
                              have c47b1 : ((Go.bits .and .u32 (ji46) 1) != 0) = false := bne_eq_false_iff_eq.mpr c47
                              clear c47
                              obtain rfl := Option.some.inj H
                              have hnb48 := NB113_114.out
                              have hnc48 := NB114_113.out
                              have hcz49_0 : wr.cell? ⟨gb113, 0, none⟩ = some (.slice Ao9 t101.length co9) := (blk_cell BK113.out 0).trans rfl
                              have hcz49_1 : wr.cell? ⟨gb113, 1, none⟩ = some (.slice Ao12 t104.length co12) := (blk_cell BK113.out 1).trans rfl
                              have hfz49_0 := blk_frozen BK113.out 0
                              have hfz49_1 := blk_frozen BK113.out 1
                              have p123 : 0 ≤ (x37_2 : Int) := of_decide_eq_true (by first | (with_reducible assumption) | assumption)
                              have q123 : x37_2 < (t101.length : Int) := of_decide_eq_true (by first | (with_reducible assumption) | assumption)
                              obtain ⟨ad123, e123, hx123_0⟩ := Kd.at_int (Kd.R_reads' HO_114000.out).2.2 x37_2 p123 q123
                              cases e123
                              replace p123 := eq_true p123
                              replace q123 := eq_true q123
                              go_wp2_with (first | (go_at_call 25; (with_reducible refine (shape_Kids.calls k2 _ _ t101 _ _ t104 x37_2 t124 _ ?side1 ?side2 ?side3 ?side4 A41.out).mono ?_); (case side1 => repeat (first | exact (Kd.R_reads' HO_114000.out).2.2 | (with_reducible refine Kd.C_alloc ?_ _) | (with_reducible refine Kd.C_drewN ?_ _) | (with_reducible refine Kd.C_drew ?_))); (case side2 => exact (Kd.R_reads' HO_114000.out).2.1); (case side3 => repeat (first | exact (Kd.R_reads' HO_114001.out).2.2 | (with_reducible refine Kd.C_alloc ?_ _) | (with_reducible refine Kd.C_drewN ?_ _) | (with_reducible refine Kd.C_drew ?_))); (case side4 => exact (Kd.R_reads' HO_114001.out).2.1); rintro e w50 ⟨v125, rfl, ho0, hb⟩; have n0_ := Aside0.mk (Kd.R_elder' (by (with_reducible repeat (first | apply Kd.R_alloc | apply Kd.R_drewN | apply Kd.R_drew)); exact HO_114000.out) (Kd.R_base ho0) hb); have n1_ := Aside0.mk (Kd.R_elder' (by (with_reducible repeat (first | apply Kd.R_alloc | apply Kd.R_drewN | apply Kd.R_drew)); exact HO_114001.out) (Kd.R_base ho0) hb); have n2_ := Aside0.mk (Kd.R_elder' (by (with_reducible repeat (first | apply Kd.R_alloc | apply Kd.R_drewN | apply Kd.R_drew)); exact HO_115000.out) (Kd.R_base ho0) hb); have n3_ := Aside0.mk (Kd.R_elder' (by (with_reducible repeat (first | apply Kd.R_alloc | apply Kd.R_drewN | apply Kd.R_drew)); exact HO_115001.out) (Kd.R_base ho0) hb); have n4_ := Aside0.mk (Kd.R_lower (Kd.R_new' (Kd.R_new' (Kd.R_new' (Kd.R_new' ho0 (Kd.R_lt (by (with_reducible repeat (first | apply Kd.R_alloc | apply Kd.R_drewN | apply Kd.R_drew)); exact HO_114000.out))) (Kd.R_lt (by (with_reducible repeat (first | apply Kd.R_alloc | apply Kd.R_drewN | apply Kd.R_drew)); exact HO_114001.out))) (Kd.R_lt (by (with_reducible repeat (first | apply Kd.R_alloc | apply Kd.R_drewN | apply Kd.R_drew)); exact HO_115000.out))) (Kd.R_lt (by (with_reducible repeat (first | apply Kd.R_alloc | apply Kd.R_drewN | apply Kd.R_drew)); exact HO_115001.out))) (below_size (by repeat (first | (with_reducible first | exact HB.out | apply below_alloc | apply pw_below_drewN | apply below_drew1 | refine below_set ?_ GE113.out | refine below_set ?_ GE114.out) | exact HB.out)))); have n5_ := Aside0.mk (blk_below (g := gb113) (o := .cells #[.slice (some ad123) t101.length co9, .slice Ao12 t104.length co12] 24 (0, 0)) (by (with_reducible repeat (first | refine blk_drewN ?_ _ | refine blk_drew ?_ | refine blk_alloc ?_ _)); exact BK113.out) hb); have n6_ := Aside0.mk (blk_below (g := gb114) (o := .cells #[.slice Ao13 t107.length co13, .slice Ao15 t110.length co15] 25 (0, 0)) (by (with_reducible repeat (first | refine blk_drewN ?_ _ | refine blk_drew ?_ | refine blk_alloc ?_ _)); exact BK114.out) hb); have n7_ := Aside0.mk (below_step (by repeat (first | (with_reducible first | exact HB.out | apply below_alloc | apply pw_below_drewN | apply below_drew1 | refine below_set ?_ GE113.out | refine below_set ?_ GE114.out) | exact HB.out)) hb); clear HO_114000; clear HO_114001; clear HO_115000; clear HO_115001; clear BK113; clear BK114; clear HB; have HO_114000 := n0_; have HO_114001 := n1_; have HO_115000 := n2_; have HO_115001 := n3_; have HO126 := n4_; have BK113 := n5_; have BK114 := n6_; have HB := n7_; clear n0_ n1_ n2_ n3_ n4_ n5_ n6_ n7_; (try clear hb); (try clear hb2); (try clear hk); (try clear hi); (try clear ho0); obtain ⟨Ao51, co51, eo51⟩ := Kd.R_slice HO126.out; subst eo51; have hcz52_0 : w50.cell? ⟨gb113, 0, none⟩ = some (.slice (some ad123) t101.length co9) := (blk_cell BK113.out 0).trans rfl; have hcz52_1 : w50.cell? ⟨gb113, 1, none⟩ = some (.slice Ao12 t104.length co12) := (blk_cell BK113.out 1).trans rfl; have hfz52_0 := blk_frozen BK113.out 0; have hfz52_1 := blk_frozen BK113.out 1) | (go_at_call 30; (with_reducible refine (shape_Initial.calls k2 _ _ t101 _ _ t104 x37_2 t127 _ ?side1 ?side2 ?side3 ?side4 A43.out).mono ?_); (case side1 => repeat (first | exact (Kd.R_reads' HO_114000.out).2.2 | (with_reducible refine Kd.C_alloc ?_ _) | (with_reducible refine Kd.C_drewN ?_ _) | (with_reducible refine Kd.C_drew ?_))); (case side2 => exact (Kd.R_reads' HO_114000.out).2.1); (case side3 => repeat (first | exact (Kd.R_reads' HO_114001.out).2.2 | (with_reducible refine Kd.C_alloc ?_ _) | (with_reducible refine Kd.C_drewN ?_ _) | (with_reducible refine Kd.C_drew ?_))); (case side4 => exact (Kd.R_reads' HO_114001.out).2.1); rintro e w53 ⟨rfl, hb⟩; have n0_ := Aside0.mk (Kd.R_below (by (with_reducible repeat (first | apply Kd.R_alloc | apply Kd.R_drewN | apply Kd.R_drew)); exact HO_114000.out) hb); have n1_ := Aside0.mk (Kd.R_below (by (with_reducible repeat (first | apply Kd.R_alloc | apply Kd.R_drewN | apply Kd.R_drew)); exact HO_114001.out) hb); have n2_ := Aside0.mk (Kd.R_below (by (with_reducible repeat (first | apply Kd.R_alloc | apply Kd.R_drewN | apply Kd.R_drew)); exact HO_115000.out) hb); have n3_ := Aside0.mk (Kd.R_below (by (with_reducible repeat (first | apply Kd.R_alloc | apply Kd.R_drewN | apply Kd.R_drew)); exact HO_115001.out) hb); have n4_ := Aside0.mk (Kd.R_below (by (with_reducible repeat (first | apply Kd.R_alloc | apply Kd.R_drewN | apply Kd.R_drew)); exact HO126.out) hb); have n5_ := Aside0.mk (blk_below (g := gb113) (o := .cells #[.slice (some ad123) t101.length co9, .slice Ao12 t104.length co12] 24 (0, 0)) (by (with_reducible repeat (first | refine blk_drewN ?_ _ | refine blk_drew ?_ | refine blk_alloc ?_ _)); exact BK113.out) hb); have n6_ := Aside0.mk (blk_below (g := gb114) (o := .cells #[.slice Ao13 t107.length co13, .slice Ao15 t110.length co15] 25 (0, 0)) (by (with_reducible repeat (first | refine blk_drewN ?_ _ | refine blk_drew ?_ | refine blk_alloc ?_ _)); exact BK114.out) hb); have n7_ := Aside0.mk (below_step (by repeat (first | (with_reducible first | exact HB.out | apply below_alloc | apply pw_below_drewN | apply below_drew1 | refine below_set ?_ GE113.out | refine below_set ?_ GE114.out) | exact HB.out)) hb); clear HO_114000; clear HO_114001; clear HO_115000; clear HO_115001; clear HO126; clear BK113; clear BK114; clear HB; have HO_114000 := n0_; have HO_114001 := n1_; have HO_115000 := n2_; have HO_115001 := n3_; have HO126 := n4_; have BK113 := n5_; have BK114 := n6_; have HB := n7_; clear n0_ n1_ n2_ n3_ n4_ n5_ n6_ n7_; (try clear hb); (try clear hb2); (try clear hk); (try clear hi)))
                              go_ret
                              exact ⟨by first | rfl | (simp [errW_none, errW_some] <;> rfl) | (simp only [← hji34, ← hji36, ← hji44, ← hji46]; first | rfl | (simp [errW_none, errW_some] <;> rfl)) | (simp [*, errW_none, errW_some] <;> rfl), by repeat (first | (with_reducible first | exact HB.out | apply below_alloc | apply pw_below_drewN | apply below_drew1 | refine below_set ?_ GE113.out | refine below_set ?_ GE114.out) | exact HB.out)⟩
                            · rw [if_neg c47] at H
                              have c47b0 : ((Go.bits .and .u32 (ji46) 1) == 0) = false := beq_eq_false_iff_ne.mpr c47
                              have c47b1 : ((Go.bits .and .u32 (ji46) 1) != 0) = true := bne_iff_ne.mpr c47
                              have H' := Aside0.mk H
                              clear H
                              have hnb54 := NB113_114.out
                              have hnc54 := NB114_113.out
                              have hcz55_0 : wr.cell? ⟨gb113, 0, none⟩ = some (.slice Ao9 t101.length co9) := (blk_cell BK113.out 0).trans rfl
                              have hcz55_1 : wr.cell? ⟨gb113, 1, none⟩ = some (.slice Ao12 t104.length co12) := (blk_cell BK113.out 1).trans rfl
                              have hfz55_0 := blk_frozen BK113.out 0
                              have hfz55_1 := blk_frozen BK113.out 1
                              have p123 : 0 ≤ (x37_2 : Int) := of_decide_eq_true (by first | (with_reducible assumption) | assumption)
                              have q123 : x37_2 < (t101.length : Int) := of_decide_eq_true (by first | (with_reducible assumption) | assumption)
                              obtain ⟨ad123, e123, hx123_0⟩ := Kd.at_int (Kd.R_reads' HO_114000.out).2.2 x37_2 p123 q123
                              cases e123
                              replace p123 := eq_true p123
                              replace q123 := eq_true q123
                              go_wp2_with (first | (go_at_call 25; (with_reducible refine (shape_Kids.calls k2 _ _ t101 _ _ t104 x37_2 t124 _ ?side1 ?side2 ?side3 ?side4 A41.out).mono ?_); (case side1 => repeat (first | exact (Kd.R_reads' HO_114000.out).2.2 | (with_reducible refine Kd.C_alloc ?_ _) | (with_reducible refine Kd.C_drewN ?_ _) | (with_reducible refine Kd.C_drew ?_))); (case side2 => exact (Kd.R_reads' HO_114000.out).2.1); (case side3 => repeat (first | exact (Kd.R_reads' HO_114001.out).2.2 | (with_reducible refine Kd.C_alloc ?_ _) | (with_reducible refine Kd.C_drewN ?_ _) | (with_reducible refine Kd.C_drew ?_))); (case side4 => exact (Kd.R_reads' HO_114001.out).2.1); rintro e w56 ⟨v125, rfl, ho0, hb⟩; have n0_ := Aside0.mk (Kd.R_elder' (by (with_reducible repeat (first | apply Kd.R_alloc | apply Kd.R_drewN | apply Kd.R_drew)); exact HO_114000.out) (Kd.R_base ho0) hb); have n1_ := Aside0.mk (Kd.R_elder' (by (with_reducible repeat (first | apply Kd.R_alloc | apply Kd.R_drewN | apply Kd.R_drew)); exact HO_114001.out) (Kd.R_base ho0) hb); have n2_ := Aside0.mk (Kd.R_elder' (by (with_reducible repeat (first | apply Kd.R_alloc | apply Kd.R_drewN | apply Kd.R_drew)); exact HO_115000.out) (Kd.R_base ho0) hb); have n3_ := Aside0.mk (Kd.R_elder' (by (with_reducible repeat (first | apply Kd.R_alloc | apply Kd.R_drewN | apply Kd.R_drew)); exact HO_115001.out) (Kd.R_base ho0) hb); have n4_ := Aside0.mk (Kd.R_lower (Kd.R_new' (Kd.R_new' (Kd.R_new' (Kd.R_new' ho0 (Kd.R_lt (by (with_reducible repeat (first | apply Kd.R_alloc | apply Kd.R_drewN | apply Kd.R_drew)); exact HO_114000.out))) (Kd.R_lt (by (with_reducible repeat (first | apply Kd.R_alloc | apply Kd.R_drewN | apply Kd.R_drew)); exact HO_114001.out))) (Kd.R_lt (by (with_reducible repeat (first | apply Kd.R_alloc | apply Kd.R_drewN | apply Kd.R_drew)); exact HO_115000.out))) (Kd.R_lt (by (with_reducible repeat (first | apply Kd.R_alloc | apply Kd.R_drewN | apply Kd.R_drew)); exact HO_115001.out))) (below_size (by repeat (first | (with_reducible first | exact HB.out | apply below_alloc | apply pw_below_drewN | apply below_drew1 | refine below_set ?_ GE113.out | refine below_set ?_ GE114.out) | exact HB.out)))); have n5_ := Aside0.mk (blk_below (g := gb113) (o := .cells #[.slice (some ad123) t101.length co9, .slice Ao12 t104.length co12] 24 (0, 0)) (by (with_reducible repeat (first | refine blk_drewN ?_ _ | refine blk_drew ?_ | refine blk_alloc ?_ _)); exact BK113.out) hb); have n6_ := Aside0.mk (blk_below (g := gb114) (o := .cells #[.slice Ao13 t107.length co13, .slice Ao15 t110.length co15] 25 (0, 0)) (by (with_reducible repeat (first | refine blk_drewN ?_ _ | refine blk_drew ?_ | refine blk_alloc ?_ _)); exact BK114.out) hb); have n7_ := Aside0.mk (below_step (by repeat (first | (with_reducible first | exact HB.out | apply below_alloc | apply pw_below_drewN | apply below_drew1 | refine below_set ?_ GE113.out | refine below_set ?_ GE114.out) | exact HB.out)) hb); clear HO_114000; clear HO_114001; clear HO_115000; clear HO_115001; clear BK113; clear BK114; clear HB; have HO_114000 := n0_; have HO_114001 := n1_; have HO_115000 := n2_; have HO_115001 := n3_; have HO126 := n4_; have BK113 := n5_; have BK114 := n6_; have HB := n7_; clear n0_ n1_ n2_ n3_ n4_ n5_ n6_ n7_; (try clear hb); (try clear hb2); (try clear hk); (try clear hi); (try clear ho0); obtain ⟨Ao57, co57, eo57⟩ := Kd.R_slice HO126.out; subst eo57; have hcz58_0 : w56.cell? ⟨gb113, 0, none⟩ = some (.slice (some ad123) t101.length co9) := (blk_cell BK113.out 0).trans rfl; have hcz58_1 : w56.cell? ⟨gb113, 1, none⟩ = some (.slice Ao12 t104.length co12) := (blk_cell BK113.out 1).trans rfl; have hfz58_0 := blk_frozen BK113.out 0; have hfz58_1 := blk_frozen BK113.out 1) | (go_at_call 30; (with_reducible refine (shape_Initial.calls k2 _ _ t101 _ _ t104 x37_2 t127 _ ?side1 ?side2 ?side3 ?side4 A43.out).mono ?_); (case side1 => repeat (first | exact (Kd.R_reads' HO_114000.out).2.2 | (with_reducible refine Kd.C_alloc ?_ _) | (with_reducible refine Kd.C_drewN ?_ _) | (with_reducible refine Kd.C_drew ?_))); (case side2 => exact (Kd.R_reads' HO_114000.out).2.1); (case side3 => repeat (first | exact (Kd.R_reads' HO_114001.out).2.2 | (with_reducible refine Kd.C_alloc ?_ _) | (with_reducible refine Kd.C_drewN ?_ _) | (with_reducible refine Kd.C_drew ?_))); (case side4 => exact (Kd.R_reads' HO_114001.out).2.1); rintro e w59 ⟨rfl, hb⟩; have n0_ := Aside0.mk (Kd.R_below (by (with_reducible repeat (first | apply Kd.R_alloc | apply Kd.R_drewN | apply Kd.R_drew)); exact HO_114000.out) hb); have n1_ := Aside0.mk (Kd.R_below (by (with_reducible repeat (first | apply Kd.R_alloc | apply Kd.R_drewN | apply Kd.R_drew)); exact HO_114001.out) hb); have n2_ := Aside0.mk (Kd.R_below (by (with_reducible repeat (first | apply Kd.R_alloc | apply Kd.R_drewN | apply Kd.R_drew)); exact HO_115000.out) hb); have n3_ := Aside0.mk (Kd.R_below (by (with_reducible repeat (first | apply Kd.R_alloc | apply Kd.R_drewN | apply Kd.R_drew)); exact HO_115001.out) hb); have n4_ := Aside0.mk (Kd.R_below (by (with_reducible repeat (first | apply Kd.R_alloc | apply Kd.R_drewN | apply Kd.R_drew)); exact HO126.out) hb); have n5_ := Aside0.mk (blk_below (g := gb113) (o := .cells #[.slice (some ad123) t101.length co9, .slice Ao12 t104.length co12] 24 (0, 0)) (by (with_reducible repeat (first | refine blk_drewN ?_ _ | refine blk_drew ?_ | refine blk_alloc ?_ _)); exact BK113.out) hb); have n6_ := Aside0.mk (blk_below (g := gb114) (o := .cells #[.slice Ao13 t107.length co13, .slice Ao15 t110.length co15] 25 (0, 0)) (by (with_reducible repeat (first | refine blk_drewN ?_ _ | refine blk_drew ?_ | refine blk_alloc ?_ _)); exact BK114.out) hb); have n7_ := Aside0.mk (below_step (by repeat (first | (with_reducible first | exact HB.out | apply below_alloc | apply pw_below_drewN | apply below_drew1 | refine below_set ?_ GE113.out | refine below_set ?_ GE114.out) | exact HB.out)) hb); clear HO_114000; clear HO_114001; clear HO_115000; clear HO_115001; clear HO126; clear BK113; clear BK114; clear HB; have HO_114000 := n0_; have HO_114001 := n1_; have HO_115000 := n2_; have HO_115001 := n3_; have HO126 := n4_; have BK113 := n5_; have BK114 := n6_; have HB := n7_; clear n0_ n1_ n2_ n3_ n4_ n5_ n6_ n7_; (try clear hb); (try clear hb2); (try clear hk); (try clear hi)))
                              go_roundg k2
                              case measure => have := HJ4.out; have := HK2.out; omega
                              case rel => exact ⟨(wrap64 (x37_2 + 1)), (by first | rfl | (simp; done) | (simp [*]; done)), (by first | exact H' | exact ⟨by simp only [hji34, hji36, hji44, hji46]; exact H'.out⟩), ⟨by have := HJ4.out; have := HK2.out; omega⟩, ⟨by (with_reducible repeat (first | apply Kd.R_alloc | apply Kd.R_drewN | apply Kd.R_drew)); exact Kd.R_mono HO_114000.out (fun _ hk => (by first | exact ⟨hk.1.1, ⟨hk.1.2.1, hk.1.2.2⟩⟩ | exact hk | exact ⟨hk.1, hk.2.1, hk.2.2.1⟩))⟩, ⟨by (with_reducible repeat (first | apply Kd.R_alloc | apply Kd.R_drewN | apply Kd.R_drew)); exact Kd.R_mono HO_114001.out (fun _ hk => (by first | exact ⟨hk.1.1, ⟨hk.1.2.1, hk.1.2.2⟩⟩ | exact hk | exact ⟨hk.1, hk.2.1, hk.2.2.1⟩))⟩, ⟨by (with_reducible repeat (first | apply Kd.R_alloc | apply Kd.R_drewN | apply Kd.R_drew)); exact Kd.R_mono HO_115000.out (fun _ hk => (by first | exact ⟨hk.1.1, ⟨hk.1.2.1, hk.1.2.2⟩⟩ | exact hk | exact ⟨hk.1, hk.2.1, hk.2.2.1⟩))⟩, ⟨by (with_reducible repeat (first | apply Kd.R_alloc | apply Kd.R_drewN | apply Kd.R_drew)); exact Kd.R_mono HO_115001.out (fun _ hk => (by first | exact ⟨hk.1.1, ⟨hk.1.2.1, hk.1.2.2⟩⟩ | exact hk | exact ⟨hk.1, hk.2.1, hk.2.2.1⟩))⟩, ⟨by (with_reducible repeat (first | refine blk_drewN ?_ _ | refine blk_drew ?_ | refine blk_alloc ?_ _)); exact BK113.out⟩, ⟨by (with_reducible repeat (first | refine blk_drewN ?_ _ | refine blk_drew ?_ | refine blk_alloc ?_ _)); exact BK114.out⟩, ⟨by repeat (first | (with_reducible first | exact HB.out | apply below_alloc | apply pw_below_drewN | apply below_drew1 | refine below_set ?_ GE113.out | refine below_set ?_ GE114.out) | exact HB.out)⟩⟩
                          · rw [if_neg c45] at H
                            exact absurd H (by simp)
                        · rw [if_neg c42] at H
                          have c42b0 : decide (0 < (t124.length : Int)) = false := decide_eq_false c42
                          have c42b1 : decide (0 < t124.length) = false := decide_eq_false (by omega)
                          clear c42
                          have H' := Aside0.mk H
                          clear H
                          have hnb60 := NB113_114.out
                          have hnc60 := NB114_113.out
                          have hcz61_0 : wr.cell? ⟨gb113, 0, none⟩ = some (.slice Ao9 t101.length co9) := (blk_cell BK113.out 0).trans rfl
                          have hcz61_1 : wr.cell? ⟨gb113, 1, none⟩ = some (.slice Ao12 t104.length co12) := (blk_cell BK113.out 1).trans rfl
                          have hfz61_0 := blk_frozen BK113.out 0
                          have hfz61_1 := blk_frozen BK113.out 1
                          have p123 : 0 ≤ (x37_2 : Int) := of_decide_eq_true (by first | (with_reducible assumption) | assumption)
                          have q123 : x37_2 < (t101.length : Int) := of_decide_eq_true (by first | (with_reducible assumption) | assumption)
                          obtain ⟨ad123, e123, hx123_0⟩ := Kd.at_int (Kd.R_reads' HO_114000.out).2.2 x37_2 p123 q123
                          cases e123
                          replace p123 := eq_true p123
                          replace q123 := eq_true q123
                          go_wp2_with (first | (go_at_call 25; (with_reducible refine (shape_Kids.calls k2 _ _ t101 _ _ t104 x37_2 t124 _ ?side1 ?side2 ?side3 ?side4 A41.out).mono ?_); (case side1 => repeat (first | exact (Kd.R_reads' HO_114000.out).2.2 | (with_reducible refine Kd.C_alloc ?_ _) | (with_reducible refine Kd.C_drewN ?_ _) | (with_reducible refine Kd.C_drew ?_))); (case side2 => exact (Kd.R_reads' HO_114000.out).2.1); (case side3 => repeat (first | exact (Kd.R_reads' HO_114001.out).2.2 | (with_reducible refine Kd.C_alloc ?_ _) | (with_reducible refine Kd.C_drewN ?_ _) | (with_reducible refine Kd.C_drew ?_))); (case side4 => exact (Kd.R_reads' HO_114001.out).2.1); rintro e w62 ⟨v125, rfl, ho0, hb⟩; have n0_ := Aside0.mk (Kd.R_elder' (by (with_reducible repeat (first | apply Kd.R_alloc | apply Kd.R_drewN | apply Kd.R_drew)); exact HO_114000.out) (Kd.R_base ho0) hb); have n1_ := Aside0.mk (Kd.R_elder' (by (with_reducible repeat (first | apply Kd.R_alloc | apply Kd.R_drewN | apply Kd.R_drew)); exact HO_114001.out) (Kd.R_base ho0) hb); have n2_ := Aside0.mk (Kd.R_elder' (by (with_reducible repeat (first | apply Kd.R_alloc | apply Kd.R_drewN | apply Kd.R_drew)); exact HO_115000.out) (Kd.R_base ho0) hb); have n3_ := Aside0.mk (Kd.R_elder' (by (with_reducible repeat (first | apply Kd.R_alloc | apply Kd.R_drewN | apply Kd.R_drew)); exact HO_115001.out) (Kd.R_base ho0) hb); have n4_ := Aside0.mk (Kd.R_lower (Kd.R_new' (Kd.R_new' (Kd.R_new' (Kd.R_new' ho0 (Kd.R_lt (by (with_reducible repeat (first | apply Kd.R_alloc | apply Kd.R_drewN | apply Kd.R_drew)); exact HO_114000.out))) (Kd.R_lt (by (with_reducible repeat (first | apply Kd.R_alloc | apply Kd.R_drewN | apply Kd.R_drew)); exact HO_114001.out))) (Kd.R_lt (by (with_reducible repeat (first | apply Kd.R_alloc | apply Kd.R_drewN | apply Kd.R_drew)); exact HO_115000.out))) (Kd.R_lt (by (with_reducible repeat (first | apply Kd.R_alloc | apply Kd.R_drewN | apply Kd.R_drew)); exact HO_115001.out))) (below_size (by repeat (first | (with_reducible first | exact HB.out | apply below_alloc | apply pw_below_drewN | apply below_drew1 | refine below_set ?_ GE113.out | refine below_set ?_ GE114.out) | exact HB.out)))); have n5_ := Aside0.mk (blk_below (g := gb113) (o := .cells #[.slice (some ad123) t101.length co9, .slice Ao12 t104.length co12] 24 (0, 0)) (by (with_reducible repeat (first | refine blk_drewN ?_ _ | refine blk_drew ?_ | refine blk_alloc ?_ _)); exact BK113.out) hb); have n6_ := Aside0.mk (blk_below (g := gb114) (o := .cells #[.slice Ao13 t107.length co13, .slice Ao15 t110.length co15] 25 (0, 0)) (by (with_reducible repeat (first | refine blk_drewN ?_ _ | refine blk_drew ?_ | refine blk_alloc ?_ _)); exact BK114.out) hb); have n7_ := Aside0.mk (below_step (by repeat (first | (with_reducible first | exact HB.out | apply below_alloc | apply pw_below_drewN | apply below_drew1 | refine below_set ?_ GE113.out | refine below_set ?_ GE114.out) | exact HB.out)) hb); clear HO_114000; clear HO_114001; clear HO_115000; clear HO_115001; clear BK113; clear BK114; clear HB; have HO_114000 := n0_; have HO_114001 := n1_; have HO_115000 := n2_; have HO_115001 := n3_; have HO126 := n4_; have BK113 := n5_; have BK114 := n6_; have HB := n7_; clear n0_ n1_ n2_ n3_ n4_ n5_ n6_ n7_; (try clear hb); (try clear hb2); (try clear hk); (try clear hi); (try clear ho0); obtain ⟨Ao63, co63, eo63⟩ := Kd.R_slice HO126.out; subst eo63))
                          go_roundg k2
                          case measure => have := HJ4.out; have := HK2.out; omega
                          case rel => exact ⟨(wrap64 (x37_2 + 1)), (by first | rfl | (simp; done) | (simp [*]; done)), (by first | exact H' | exact ⟨by simp only [hji34, hji36]; exact H'.out⟩), ⟨by have := HJ4.out; have := HK2.out; omega⟩, ⟨by (with_reducible repeat (first | apply Kd.R_alloc | apply Kd.R_drewN | apply Kd.R_drew)); exact Kd.R_mono HO_114000.out (fun _ hk => (by first | exact ⟨hk.1.1, ⟨hk.1.2.1, hk.1.2.2⟩⟩ | exact hk | exact ⟨hk.1, hk.2.1, hk.2.2.1⟩))⟩, ⟨by (with_reducible repeat (first | apply Kd.R_alloc | apply Kd.R_drewN | apply Kd.R_drew)); exact Kd.R_mono HO_114001.out (fun _ hk => (by first | exact ⟨hk.1.1, ⟨hk.1.2.1, hk.1.2.2⟩⟩ | exact hk | exact ⟨hk.1, hk.2.1, hk.2.2.1⟩))⟩, ⟨by (with_reducible repeat (first | apply Kd.R_alloc | apply Kd.R_drewN | apply Kd.R_drew)); exact Kd.R_mono HO_115000.out (fun _ hk => (by first | exact ⟨hk.1.1, ⟨hk.1.2.1, hk.1.2.2⟩⟩ | exact hk | exact ⟨hk.1, hk.2.1, hk.2.2.1⟩))⟩, ⟨by (with_reducible repeat (first | apply Kd.R_alloc | apply Kd.R_drewN | apply Kd.R_drew)); exact Kd.R_mono HO_115001.out (fun _ hk => (by first | exact ⟨hk.1.1, ⟨hk.1.2.1, hk.1.2.2⟩⟩ | exact hk | exact ⟨hk.1, hk.2.1, hk.2.2.1⟩))⟩, ⟨by (with_reducible repeat (first | refine blk_drewN ?_ _ | refine blk_drew ?_ | refine blk_alloc ?_ _)); exact BK113.out⟩, ⟨by (with_reducible repeat (first | refine blk_drewN ?_ _ | refine blk_drew ?_ | refine blk_alloc ?_ _)); exact BK114.out⟩, ⟨by repeat (first | (with_reducible first | exact HB.out | apply below_alloc | apply pw_below_drewN | apply below_drew1 | refine below_set ?_ GE113.out | refine below_set ?_ GE114.out) | exact HB.out)⟩⟩
                      · rw [if_neg c40] at H
                        have c40b0 : ((rd t101 x37_2) == 1) = false := beq_eq_false_iff_ne.mpr c40
                        have c40b1 : ((rd t101 x37_2) != 1) = true := bne_iff_ne.mpr c40
                        have H' := Aside0.mk H
                        clear H
                        have hnb64 := NB113_114.out
                        have hnc64 := NB114_113.out
                        have hcz65_0 : wr.cell? ⟨gb113, 0, none⟩ = some (.slice Ao9 t101.length co9) := (blk_cell BK113.out 0).trans rfl
                        have hcz65_1 : wr.cell? ⟨gb113, 1, none⟩ = some (.slice Ao12 t104.length co12) := (blk_cell BK113.out 1).trans rfl
                        have hfz65_0 := blk_frozen BK113.out 0
                        have hfz65_1 := blk_frozen BK113.out 1
                        have p123 : 0 ≤ (x37_2 : Int) := of_decide_eq_true (by first | (with_reducible assumption) | assumption)
                        have q123 : x37_2 < (t101.length : Int) := of_decide_eq_true (by first | (with_reducible assumption) | assumption)
                        obtain ⟨ad123, e123, hx123_0⟩ := Kd.at_int (Kd.R_reads' HO_114000.out).2.2 x37_2 p123 q123
                        cases e123
                        replace p123 := eq_true p123
                        replace q123 := eq_true q123
                        go_wp2
                        go_roundg k2
                        case measure => have := HJ4.out; have := HK2.out; omega
                        case rel => exact ⟨(wrap64 (x37_2 + 1)), (by first | rfl | (simp; done) | (simp [*]; done)), (by first | exact H' | exact ⟨by simp only [hji34, hji36]; exact H'.out⟩), ⟨by have := HJ4.out; have := HK2.out; omega⟩, ⟨by (with_reducible repeat (first | apply Kd.R_alloc | apply Kd.R_drewN | apply Kd.R_drew)); exact HO_114000.out⟩, ⟨by (with_reducible repeat (first | apply Kd.R_alloc | apply Kd.R_drewN | apply Kd.R_drew)); exact HO_114001.out⟩, ⟨by (with_reducible repeat (first | apply Kd.R_alloc | apply Kd.R_drewN | apply Kd.R_drew)); exact HO_115000.out⟩, ⟨by (with_reducible repeat (first | apply Kd.R_alloc | apply Kd.R_drewN | apply Kd.R_drew)); exact HO_115001.out⟩, ⟨by (with_reducible repeat (first | refine blk_drewN ?_ _ | refine blk_drew ?_ | refine blk_alloc ?_ _)); exact BK113.out⟩, ⟨by (with_reducible repeat (first | refine blk_drewN ?_ _ | refine blk_drew ?_ | refine blk_alloc ?_ _)); exact BK114.out⟩, ⟨by repeat (first | (with_reducible first | exact HB.out | apply below_alloc | apply pw_below_drewN | apply below_drew1 | refine below_set ?_ GE113.out | refine below_set ?_ GE114.out) | exact HB.out)⟩⟩
                    · rw [if_neg c39] at H
                      exact absurd H (by simp)
                  · rw [if_neg c38] at H
                    exact absurd H (by simp)
                · rw [if_neg c37] at H
                  have c37b0 : ((Go.bits .and .u32 (ji36) 1) == 1) = false := beq_eq_false_iff_ne.mpr c37
                  have c37b1 : ((Go.bits .and .u32 (ji36) 1) != 1) = true := bne_iff_ne.mpr c37
                  have H' := Aside0.mk H
                  clear H
                  go_wp2
                  go_roundg k2
                  case measure => have := HJ4.out; have := HK2.out; omega
                  case rel => exact ⟨(wrap64 (x37_2 + 1)), (by first | rfl | (simp; done) | (simp [*]; done)), (by first | exact H' | exact ⟨by simp only [hji34, hji36]; exact H'.out⟩), ⟨by have := HJ4.out; have := HK2.out; omega⟩, ⟨by (with_reducible repeat (first | apply Kd.R_alloc | apply Kd.R_drewN | apply Kd.R_drew)); exact HO_114000.out⟩, ⟨by (with_reducible repeat (first | apply Kd.R_alloc | apply Kd.R_drewN | apply Kd.R_drew)); exact HO_114001.out⟩, ⟨by (with_reducible repeat (first | apply Kd.R_alloc | apply Kd.R_drewN | apply Kd.R_drew)); exact HO_115000.out⟩, ⟨by (with_reducible repeat (first | apply Kd.R_alloc | apply Kd.R_drewN | apply Kd.R_drew)); exact HO_115001.out⟩, ⟨by (with_reducible repeat (first | refine blk_drewN ?_ _ | refine blk_drew ?_ | refine blk_alloc ?_ _)); exact BK113.out⟩, ⟨by (with_reducible repeat (first | refine blk_drewN ?_ _ | refine blk_drew ?_ | refine blk_alloc ?_ _)); exact BK114.out⟩, ⟨by repeat (first | (with_reducible first | exact HB.out | apply below_alloc | apply pw_below_drewN | apply below_drew1 | refine below_set ?_ GE113.out | refine below_set ?_ GE114.out) | exact HB.out)⟩⟩
              · rw [if_neg c35] at H
                exact absurd H (by simp)
            · rw [if_neg c33] at H
              have c33b0 : decide (x37_2 < (t101.length : Int)) = false := decide_eq_false c33
              clear c33
              replace H := Option.bind_eq_some_iff.mp H
              obtain ⟨t122, A660, H⟩ := H
              replace H : (some t122) = some r := H
              have A66 := Aside0.mk A660
              clear A660
              obtain rfl := Option.some.inj H
              go_wp2_with (first | ((with_reducible refine gate_callee (f := 28) rfl ?_); refine goesL_ (some 72) rfl rfl Try.func28 (by kernel_rfl) rfl #[] rfl (by (try simp only [List.map_toArray, List.map_cons, List.map_nil]); first | done | rfl | (simp only [List.length_drop, List.length_take]; rfl)) ?_; (with_reducible refine (imprimaturlaw07_wakes.calls k2  t122 _ A66.out).mono ?_); rintro e w67 ⟨rfl, hb⟩; refine ⟨_, rfl, ?_⟩; have n0_ := Aside0.mk (Kd.R_below (by (with_reducible repeat (first | apply Kd.R_alloc | apply Kd.R_drewN | apply Kd.R_drew)); exact HO_114000.out) hb); have n1_ := Aside0.mk (Kd.R_below (by (with_reducible repeat (first | apply Kd.R_alloc | apply Kd.R_drewN | apply Kd.R_drew)); exact HO_114001.out) hb); have n2_ := Aside0.mk (Kd.R_below (by (with_reducible repeat (first | apply Kd.R_alloc | apply Kd.R_drewN | apply Kd.R_drew)); exact HO_115000.out) hb); have n3_ := Aside0.mk (Kd.R_below (by (with_reducible repeat (first | apply Kd.R_alloc | apply Kd.R_drewN | apply Kd.R_drew)); exact HO_115001.out) hb); have n4_ := Aside0.mk (blk_below (g := gb113) (o := .cells #[.slice Ao9 t101.length co9, .slice Ao12 t104.length co12] 24 (0, 0)) (by (with_reducible repeat (first | refine blk_drewN ?_ _ | refine blk_drew ?_ | refine blk_alloc ?_ _)); exact BK113.out) hb); have n5_ := Aside0.mk (blk_below (g := gb114) (o := .cells #[.slice Ao13 t107.length co13, .slice Ao15 t110.length co15] 25 (0, 0)) (by (with_reducible repeat (first | refine blk_drewN ?_ _ | refine blk_drew ?_ | refine blk_alloc ?_ _)); exact BK114.out) hb); have n6_ := Aside0.mk (below_step (by repeat (first | (with_reducible first | exact HB.out | apply below_alloc | apply pw_below_drewN | apply below_drew1 | refine below_set ?_ GE113.out | refine below_set ?_ GE114.out) | exact HB.out)) hb); clear HO_114000; clear HO_114001; clear HO_115000; clear HO_115001; clear BK113; clear BK114; clear HB; have HO_114000 := n0_; have HO_114001 := n1_; have HO_115000 := n2_; have HO_115001 := n3_; have BK113 := n4_; have BK114 := n5_; have HB := n6_; clear n0_ n1_ n2_ n3_ n4_ n5_ n6_; (try clear hb); (try clear hb2); (try clear hk); (try clear hi)))
              go_ret
              exact ⟨by first | rfl | (simp [errW_none, errW_some] <;> rfl) | (simp [*, errW_none, errW_some] <;> rfl), by repeat (first | (with_reducible first | exact HB.out | apply below_alloc | apply pw_below_drewN | apply below_drew1 | refine below_set ?_ GE113.out | refine below_set ?_ GE114.out) | exact HB.out)⟩

/-- THE ONE PURE STATEMENT of imprimaturlaw07_EnterStart: yours. -/
def imprimaturlaw07_EnterStart.Pure : Prop := ∀ (l0 : List Int), l0.length ≤ maxLen → l0.length * 8 ≤ 140737488351232 → (∀ x ∈ l0, (Lit.int .i64 x).wf = true) → ∃ k, imprimaturlaw07_EnterStart.f k l0 = some true
theorem imprimaturlaw07_EnterStart.walk (P : imprimaturlaw07_EnterStart.Pure) (a0 : Option Addr) (len0 cap0 : Nat) (z0 : List Int) (w : World) (w0 : (a0 = none ∧ len0 = 0 ∧ cap0 = 0 ∧ z0 = []) ∨ ∃ x, a0 = some x ∧ len0 ≤ cap0 ∧ cap0 ≤ maxLen ∧ z0.length = cap0 ∧ (∀ i, i < z0.length → w.cell? (x.add i) = some (.int .i64 (z0.getD i 0))) ∧ ∀ n ∈ z0, (Lit.int .i64 n).wf = true) (y0 : len0 * 8 ≤ 140737488351232) :
    Calls Try.prog 8 #[.slice a0 len0 cap0] w fun e w' => e = .returned (.bool true) ∧ Below w.heap.size w w' := by
  obtain ⟨l0, rfl, hr0, hm0, hw0, hc0⟩ := ReadsInt.ofRowC w0
  obtain ⟨k, h⟩ := P l0 hm0 y0 hw0
  refine (imprimaturlaw07_EnterStart.calls k _ _ l0 true w (Kd.C_of_reads (d := (0 : Int)) (h1 := fun _ => rfl) hr0) hc0 h).mono ?_
  rintro e w' ⟨rfl, hd⟩
  exact ⟨rfl, hd⟩

end Go.Proofs.Ytnomeokicfpidaa.Q
