-- merged and slimmed by slim.py (a program of this repo)
import Derived.Test.YtnomeokicfpidaaSEnterMemory0
import Derived.Test.YtnomeokicfpidaaSEnterMemory1
import Derived.Test.YtnomeokicfpidaaSEnterMemory2
import Derived.Laws.BitsLemmas
namespace Go.Proofs.Ytnomeokicfpidaa.Q
open Go.RowKit Go.Proofs.YtnomeokicfpidaaW.PrintWords Go.Proofs.YtnomeokicfpidaaW.PrintLast Go.Proofs.YtnomeokicfpidaaW.PrintMore
attribute [local go_sem] max2_int min2_int max_two min_two max_three min_three max_four min_four
set_option linter.unusedVariables false
set_option linter.unusedSimpArgs false
mutual
def imprimaturlaw07_EnterMemory.l0 : Nat → Int → List Int → List Int → List Int → Int → Int → List Int → List Int → Option (Bool)
 | 0, _, _, _, _, _, _, _, _ => none
 | k + 1, x11, x12, x13, x14, x57, x58, x114000, x114001 => if x58 < x57 then ((shape_Kids.f k x114000 x114001 x58).bind fun t127 => (imprimaturlaw07_EnterMemory.l1 k x11 x12 x13 x14 x58 false x57 x58 t127 (t127.length : Int) 0 x114000 x114001)) else ((imprimaturlaw07_wakes.f k).bind fun t126 => (some t126))
def imprimaturlaw07_EnterMemory.l1 : Nat → Int → List Int → List Int → List Int → Int → Bool → Int → Int → List Int → Int → Int → List Int → List Int → Option (Bool)
 | 0, _, _, _, _, _, _, _, _, _, _, _, _, _ => none
 | k + 1, x11, x12, x13, x14, x15, x16, x57, x58, x63, x64, x65, x114000, x114001 => if x65 < x64 then (if 0 ≤ x65 then (if x65 < (x63.length : Int) then (if x16 = true then (imprimaturlaw07_EnterMemory.l1 k x11 x12 x13 x14 x15 true x57 x58 x63 x64 (wrap64 (x65 + 1)) x114000 x114001) else (if 0 ≤ (rd x63 x65) then (if (rd x63 x65) < (x114000.length : Int) then (imprimaturlaw07_EnterMemory.l1 k x11 x12 x13 x14 x15 (decide ((rd x114000 (rd x63 x65)) ≥ 3)) x57 x58 x63 x64 (wrap64 (x65 + 1)) x114000 x114001) else (none)) else (none))) else (none)) else (none)) else (if x15 < (x12.length : Int) then (if 0 ≤ x15 then (imprimaturlaw07_EnterMemory.j2 k x11 x12 x13 x14 x15 x16 (rd x12 x15) x57 x58 x114000 x114001) else (none)) else (imprimaturlaw07_EnterMemory.j2 k x11 x12 x13 x14 x15 x16 0 x57 x58 x114000 x114001))
def imprimaturlaw07_EnterMemory.j2 : Nat → Int → List Int → List Int → List Int → Int → Bool → Int → Int → Int → List Int → List Int → Option (Bool)
 | 0, _, _, _, _, _, _, _, _, _, _, _ => none
 | k + 1, x11, x12, x13, x14, x15, x16, x19, x57, x58, x114000, x114001 => if x16 = true then ((imprimaturlaw07_bits.f k x13).bind fun t133 => (if 0 ≤ (IntKind.u64.wrap (x15)) then (imprimaturlaw07_EnterMemory.j3 k x11 x12 x13 x14 x15 x19 x57 x58 ((Go.bits .and .u32 (shr .u32 t133 (IntKind.u64.wrap (x15))) 1) == 1) x114000 x114001) else (none))) else (imprimaturlaw07_EnterMemory.j3 k x11 x12 x13 x14 x15 x19 x57 x58 false x114000 x114001)
def imprimaturlaw07_EnterMemory.j3 : Nat → Int → List Int → List Int → List Int → Int → Int → Int → Int → Bool → List Int → List Int → Option (Bool)
 | 0, _, _, _, _, _, _, _, _, _, _, _ => none
 | k + 1, x11, x12, x13, x14, x15, x20, x57, x58, x97, x114000, x114001 => if x97 = true then (imprimaturlaw07_EnterMemory.l2 k x11 x12 x13 x14 x15 0 x57 x58 (x114000.length : Int) 0 x114000 x114001) else (if 0 ≤ x15 then (if x15 < (x14.length : Int) then (if (rd x14 x15) = x20 then (imprimaturlaw07_EnterMemory.l0 k x11 x12 x13 x14 x57 (wrap64 (x58 + 1)) x114000 x114001) else (some false)) else (none)) else (none))
def imprimaturlaw07_EnterMemory.l2 : Nat → Int → List Int → List Int → List Int → Int → Int → Int → Int → Int → Int → List Int → List Int → Option (Bool)
 | 0, _, _, _, _, _, _, _, _, _, _, _, _ => none
 | k + 1, x11, x12, x13, x14, x15, x20, x57, x58, x100, x101, x114000, x114001 => if x101 < x100 then (if x101 = x15 then (imprimaturlaw07_EnterMemory.l2 k x11 x12 x13 x14 x15 x20 x57 x58 x100 (wrap64 (x101 + 1)) x114000 x114001) else ((shape_Under.f k x114000 x114001 x101 x15).bind fun t134 => (if t134 = true then (if 0 ≤ (IntKind.u64.wrap (x101)) then (imprimaturlaw07_EnterMemory.l2 k x11 x12 x13 x14 x15 (Go.bits .or .u32 x20 (Go.bits .and .u32 x11 (shl .u32 1 (IntKind.u64.wrap (x101))))) x57 x58 x100 (wrap64 (x101 + 1)) x114000 x114001) else (none)) else (imprimaturlaw07_EnterMemory.l2 k x11 x12 x13 x14 x15 x20 x57 x58 x100 (wrap64 (x101 + 1)) x114000 x114001)))) else (if 0 ≤ x15 then (if x15 < (x14.length : Int) then (if (rd x14 x15) = x20 then (imprimaturlaw07_EnterMemory.l0 k x11 x12 x13 x14 x57 (wrap64 (x58 + 1)) x114000 x114001) else (some false)) else (none)) else (none))
end
def imprimaturlaw07_EnterMemory.f (k : Nat) (l0 : List Int) (l1 : List Int) (a2 : Int) (l3 : List (List Int)) : Option (Bool) := (imprimaturlaw06_Of.f k l0).bind fun bt101 => ((imprimaturlaw06_Config.f k bt101.2.2.1 bt101.2.2.2 l1).bind fun t115 => ((imprimaturkeep_Within.f a2 (wrap64 ((bt101.1.length : Int) + 1))).bind fun t116 => ((imprimaturlaw07_Past.f k bt101.2.2.1 bt101.2.2.2 l3).bind fun t117 => ((enter_Leave.f k bt101.1 bt101.2.1 t115 (wrap64 (t116 - 1))).bind fun t120 => ((enter_Remember.f k bt101.1 bt101.2.1 t115 t120 t117).bind fun t123 => (if (t123.length : Int) = (bt101.1.length : Int) then (imprimaturlaw07_EnterMemory.l0 k t115 t117 t120 t123 (bt101.1.length : Int) 0 bt101.1 bt101.2.1) else (some false)))))))
set_option maxHeartbeats 8000000 in
set_option maxRecDepth 100000 in
theorem imprimaturlaw07_EnterMemory.calls (k : Nat) (A0 : Option Addr) (c0 : Nat) (l0 : List Int) (A1 : Option Addr) (c1 : Nat) (l1 : List Int) (a2 : Int) (A3 : Option Addr) (c3 : Nat) (l3 : List (List Int)) (r : Bool) (w : World) (hr0 : Kd.C (Kd.int .i64) w A0 l0.length l0) (hc0 : l0.length ≤ c0) (hr1 : Kd.C (Kd.int .i64) w A1 l1.length l1) (hc1 : l1.length ≤ c1) (hr3 : Kd.C (Kd.slice 3 (Kd.int .i64)) w A3 l3.length l3) (hc3 : l3.length ≤ c3) (h : imprimaturlaw07_EnterMemory.f k l0 l1 a2 l3 = some r) :
  Calls Try.prog 7 #[.slice A0 l0.length c0, .slice A1 l1.length c1, .int .i64 a2, .slice A3 l3.length c3] w fun e w' => e = .returned (.bool r) ∧ Below w.heap.size w w' := by
 have hu24 := Try.underlying24
 have hu25 := Try.underlying25
 have HR0 := Aside0.mk hr0
 have HC0 := Aside0.mk hc0
 clear hr0 hc0
 have HR1 := Aside0.mk hr1
 have HC1 := Aside0.mk hc1
 clear hr1 hc1
 have HR3 := Aside0.mk hr3
 have HC3 := Aside0.mk hc3
 clear hr3 hc3
 have HB := Aside0.mk (Below.refl w.heap.size w)
 have H : ((imprimaturlaw06_Of.f k l0).bind fun bt101 => ((imprimaturlaw06_Config.f k bt101.2.2.1 bt101.2.2.2 l1).bind fun t115 => ((imprimaturkeep_Within.f a2 (wrap64 ((bt101.1.length : Int) + 1))).bind fun t116 => ((imprimaturlaw07_Past.f k bt101.2.2.1 bt101.2.2.2 l3).bind fun t117 => ((enter_Leave.f k bt101.1 bt101.2.1 t115 (wrap64 (t116 - 1))).bind fun t120 => ((enter_Remember.f k bt101.1 bt101.2.1 t115 t120 t117).bind fun t123 => (if (t123.length : Int) = (bt101.1.length : Int) then (imprimaturlaw07_EnterMemory.l0 k t115 t117 t120 t123 (bt101.1.length : Int) 0 bt101.1 bt101.2.1) else (some false)))))))) = some r := h
 clear h
 replace H := Option.bind_eq_some_iff.mp H
 obtain ⟨⟨t101, t104, t107, t110⟩, A50, H⟩ := H
 replace H : ((imprimaturlaw06_Config.f k t107 t110 l1).bind fun t115 => ((imprimaturkeep_Within.f a2 (wrap64 ((t101.length : Int) + 1))).bind fun t116 => ((imprimaturlaw07_Past.f k t107 t110 l3).bind fun t117 => ((enter_Leave.f k t101 t104 t115 (wrap64 (t116 - 1))).bind fun t120 => ((enter_Remember.f k t101 t104 t115 t120 t117).bind fun t123 => (if (t123.length : Int) = (t101.length : Int) then (imprimaturlaw07_EnterMemory.l0 k t115 t117 t120 t123 (t101.length : Int) 0 t101 t104) else (some false))))))) = some r := H
 have A5 := Aside0.mk A50
 clear A50
 replace H := Option.bind_eq_some_iff.mp H
 obtain ⟨t115, A60, H⟩ := H
 replace H : ((imprimaturkeep_Within.f a2 (wrap64 ((t101.length : Int) + 1))).bind fun t116 => ((imprimaturlaw07_Past.f k t107 t110 l3).bind fun t117 => ((enter_Leave.f k t101 t104 t115 (wrap64 (t116 - 1))).bind fun t120 => ((enter_Remember.f k t101 t104 t115 t120 t117).bind fun t123 => (if (t123.length : Int) = (t101.length : Int) then (imprimaturlaw07_EnterMemory.l0 k t115 t117 t120 t123 (t101.length : Int) 0 t101 t104) else (some false)))))) = some r := H
 have A6 := Aside0.mk A60
 clear A60
 replace H := Option.bind_eq_some_iff.mp H
 obtain ⟨t116, A70, H⟩ := H
 replace H : ((imprimaturlaw07_Past.f k t107 t110 l3).bind fun t117 => ((enter_Leave.f k t101 t104 t115 (wrap64 (t116 - 1))).bind fun t120 => ((enter_Remember.f k t101 t104 t115 t120 t117).bind fun t123 => (if (t123.length : Int) = (t101.length : Int) then (imprimaturlaw07_EnterMemory.l0 k t115 t117 t120 t123 (t101.length : Int) 0 t101 t104) else (some false))))) = some r := H
 have A7 := Aside0.mk A70
 clear A70
 replace H := Option.bind_eq_some_iff.mp H
 obtain ⟨t117, A80, H⟩ := H
 replace H : ((enter_Leave.f k t101 t104 t115 (wrap64 (t116 - 1))).bind fun t120 => ((enter_Remember.f k t101 t104 t115 t120 t117).bind fun t123 => (if (t123.length : Int) = (t101.length : Int) then (imprimaturlaw07_EnterMemory.l0 k t115 t117 t120 t123 (t101.length : Int) 0 t101 t104) else (some false)))) = some r := H
 have A8 := Aside0.mk A80
 clear A80
 replace H := Option.bind_eq_some_iff.mp H
 obtain ⟨t120, A90, H⟩ := H
 replace H : ((enter_Remember.f k t101 t104 t115 t120 t117).bind fun t123 => (if (t123.length : Int) = (t101.length : Int) then (imprimaturlaw07_EnterMemory.l0 k t115 t117 t120 t123 (t101.length : Int) 0 t101 t104) else (some false))) = some r := H
 have A9 := Aside0.mk A90
 clear A90
 replace H := Option.bind_eq_some_iff.mp H
 obtain ⟨t123, A100, H⟩ := H
 replace H : (if (t123.length : Int) = (t101.length : Int) then (imprimaturlaw07_EnterMemory.l0 k t115 t117 t120 t123 (t101.length : Int) 0 t101 t104) else (some false)) = some r := H
 have A10 := Aside0.mk A100
 clear A100
 by_cases c11 : (t123.length : Int) = (t101.length : Int)
 ·rw [if_pos c11] at H
  have c11b0 : ((t123.length : Int) == (t101.length : Int)) = true := beq_iff_eq.mpr c11
  have c11b1 : ((t123.length : Int) != (t101.length : Int)) = false := bne_eq_false_iff_eq.mpr c11
  have c11b2 : (t123.length == t101.length) = true := by first | simpa using c11 | (simp at c11 ⊢; omega)
  clear c11
  have H' := Aside0.mk H
  clear H
  go_enter Try.func7, Try.ntmps7
  go_wp2_with (first | ((with_reducible refine gate_callee (f := 13) rfl ?_); refine goesL_ (some 24) rfl rfl Try.func13 (by kernel_rfl) rfl #[.slice A0 l0.length c0] rfl (by (try simp only [List.map_toArray, List.map_cons, List.map_nil]); first | done | rfl | (simp only [List.length_drop, List.length_take]; rfl)) ?_; (with_reducible refine (imprimaturlaw06_Of.calls k _ _ l0 t101 t104 t107 t110 _ ?side1 ?side2 A5.out).mono ?_); (case side1 => repeat (first | exact HR0.out | (with_reducible refine Kd.C_alloc ?_ _) | (with_reducible refine Kd.C_drewN ?_ _) | (with_reducible refine Kd.C_drew ?_))); (case side2 => exact HC0.out); rintro e w12 ⟨v102, v105, v108, v111, rfl, ho0, ho1, ho2, ho3, hb⟩; refine ⟨_, rfl, ?_⟩; have n0_ := Aside0.mk (Kd.R_lower ho0 (below_size (by repeat (first | (with_reducible first | exact HB.out | apply below_alloc | apply pw_below_drewN | apply below_drew1) | exact HB.out)))); have n1_ := Aside0.mk (Kd.R_lower ho1 (below_size (by repeat (first | (with_reducible first | exact HB.out | apply below_alloc | apply pw_below_drewN | apply below_drew1) | exact HB.out)))); have n2_ := Aside0.mk (Kd.R_lower ho2 (below_size (by repeat (first | (with_reducible first | exact HB.out | apply below_alloc | apply pw_below_drewN | apply below_drew1) | exact HB.out)))); have n3_ := Aside0.mk (Kd.R_lower ho3 (below_size (by repeat (first | (with_reducible first | exact HB.out | apply below_alloc | apply pw_below_drewN | apply below_drew1) | exact HB.out)))); have n4_ := Aside0.mk (below_step (by repeat (first | (with_reducible first | exact HB.out | apply below_alloc | apply pw_below_drewN | apply below_drew1) | exact HB.out)) hb); clear HB; have HO103 := n0_; have HO106 := n1_; have HO109 := n2_; have HO112 := n3_; have HB := n4_; clear n0_ n1_ n2_ n3_ n4_; (try clear hb); (try clear hb2); (try clear hk); (try clear hi); (try clear ho0); (try clear ho1); (try clear ho2); (try clear ho3)) | ((with_reducible refine gate_dst (N := 9) rfl ?_); refine box_event ?hg (N := 9) ?hd (cs := #[.slice none 0 0, .slice none 0 0]) (t := 24) ?hr ?_; (case hd => rfl); (case hg => rfl); (case hr => first | (go_simp; done) | (go_simp; rfl)); intro gb113 hg w13 hbox hb; have n0_ := Aside0.mk (Kd.R_below (by (with_reducible repeat (first | apply Kd.R_alloc | apply Kd.R_drewN | apply Kd.R_drew)); exact HO103.out) hb); have n1_ := Aside0.mk (Kd.R_below (by (with_reducible repeat (first | apply Kd.R_alloc | apply Kd.R_drewN | apply Kd.R_drew)); exact HO106.out) hb); have n2_ := Aside0.mk (Kd.R_below (by (with_reducible repeat (first | apply Kd.R_alloc | apply Kd.R_drewN | apply Kd.R_drew)); exact HO109.out) hb); have n3_ := Aside0.mk (Kd.R_below (by (with_reducible repeat (first | apply Kd.R_alloc | apply Kd.R_drewN | apply Kd.R_drew)); exact HO112.out) hb); have n4_ := Aside0.mk (below_step (by repeat (first | (with_reducible first | exact HB.out | apply below_alloc | apply pw_below_drewN | apply below_drew1) | exact HB.out)) hb); have n5_ := Aside0.mk (hbox); have n6_ := Aside0.mk ((by rw [hg]; exact (below_size (by repeat (first | (with_reducible first | exact HB.out | apply below_alloc | apply pw_below_drewN | apply below_drew1) | exact HB.out))) : w.heap.size ≤ gb113)); have n7_ := Aside0.mk ((by rw [hg]; exact (below_size (by repeat (first | (with_reducible first | exact HB.out | apply below_alloc | apply pw_below_drewN | apply below_drew1) | exact HB.out))) : w.heap.size ≤ gb113)); clear HO103; clear HO106; clear HO109; clear HO112; clear HB; have HO103 := n0_; have HO106 := n1_; have HO109 := n2_; have HO112 := n3_; have HB := n4_; have BK113 := n5_; have GW113 := n6_; have GE113 := n7_; clear n0_ n1_ n2_ n3_ n4_ n5_ n6_ n7_; clear hb hbox hg) | ((with_reducible refine gate_dst (N := 10) rfl ?_); refine box_event ?hg (N := 10) ?hd (cs := #[.slice none 0 0, .slice none 0 0]) (t := 25) ?hr ?_; (case hd => rfl); (case hg => rfl); (case hr => first | (go_simp; done) | (go_simp; rfl)); intro gb114 hg w14 hbox hb; have n0_ := Aside0.mk (Kd.R_below (by (with_reducible repeat (first | apply Kd.R_alloc | apply Kd.R_drewN | apply Kd.R_drew)); exact HO103.out) hb); have n1_ := Aside0.mk (Kd.R_below (by (with_reducible repeat (first | apply Kd.R_alloc | apply Kd.R_drewN | apply Kd.R_drew)); exact HO106.out) hb); have n2_ := Aside0.mk (Kd.R_below (by (with_reducible repeat (first | apply Kd.R_alloc | apply Kd.R_drewN | apply Kd.R_drew)); exact HO109.out) hb); have n3_ := Aside0.mk (Kd.R_below (by (with_reducible repeat (first | apply Kd.R_alloc | apply Kd.R_drewN | apply Kd.R_drew)); exact HO112.out) hb); have n4_ := Aside0.mk (blk_below (g := gb113) (o := .cells #[.slice none 0 0, .slice none 0 0] 24 (0, 0)) (by (with_reducible repeat (first | refine blk_drewN ?_ _ | refine blk_drew ?_ | refine blk_alloc ?_ _)); exact BK113.out) hb); have n5_ := Aside0.mk (below_step (by repeat (first | (with_reducible first | exact HB.out | apply below_alloc | apply pw_below_drewN | apply below_drew1 | refine below_set ?_ GE113.out) | exact HB.out)) hb); have n6_ := Aside0.mk (hbox); have n7_ := Aside0.mk ((by rw [hg]; exact (below_size (by repeat (first | (with_reducible first | exact HB.out | apply below_alloc | apply pw_below_drewN | apply below_drew1 | refine below_set ?_ GE113.out) | exact HB.out))) : w.heap.size ≤ gb114)); have n8_ := Aside0.mk ((by rw [hg]; exact (below_size (by repeat (first | (with_reducible first | exact HB.out | apply below_alloc | apply pw_below_drewN | apply below_drew1 | refine below_set ?_ GE113.out) | exact HB.out))) : w.heap.size ≤ gb114)); have n9_ := Aside0.mk ((by rw [hg]; exact Nat.ne_of_lt (blk_lt (g := gb113) (o := .cells #[.slice none 0 0, .slice none 0 0] 24 (0, 0)) (by (with_reducible repeat (first | refine blk_drewN ?_ _ | refine blk_drew ?_ | refine blk_alloc ?_ _)); exact BK113.out)) : gb113 ≠ gb114)); have n10_ := Aside0.mk ((by rw [hg]; exact Nat.ne_of_gt (blk_lt (g := gb113) (o := .cells #[.slice none 0 0, .slice none 0 0] 24 (0, 0)) (by (with_reducible repeat (first | refine blk_drewN ?_ _ | refine blk_drew ?_ | refine blk_alloc ?_ _)); exact BK113.out)) : gb114 ≠ gb113)); clear HO103; clear HO106; clear HO109; clear HO112; clear BK113; clear HB; have HO103 := n0_; have HO106 := n1_; have HO109 := n2_; have HO112 := n3_; have BK113 := n4_; have HB := n5_; have BK114 := n6_; have GW114 := n7_; have GE114 := n8_; have NB113_114 := n9_; have NB114_113 := n10_; clear n0_ n1_ n2_ n3_ n4_ n5_ n6_ n7_ n8_ n9_ n10_; clear hb hbox hg; obtain ⟨Ao15, co15, eo15⟩ := Kd.R_slice HO103.out; subst eo15; have hnb16 := NB113_114.out; have hnc16 := NB114_113.out; have hcz17_0 : w14.cell? ⟨gb113, 0, none⟩ = some (.slice none 0 0) := (blk_cell BK113.out 0).trans rfl; have hcz17_1 : w14.cell? ⟨gb113, 1, none⟩ = some (.slice none 0 0) := (blk_cell BK113.out 1).trans rfl; have hfz17_0 := blk_frozen BK113.out 0; have hfz17_1 := blk_frozen BK113.out 1; obtain ⟨Ao18, co18, eo18⟩ := Kd.R_slice HO106.out; subst eo18; obtain ⟨Ao19, co19, eo19⟩ := Kd.R_slice HO109.out; subst eo19; have hcz20_0 : w14.cell? ⟨gb114, 0, none⟩ = some (.slice none 0 0) := (blk_cell BK114.out 0).trans rfl; have hcz20_1 : w14.cell? ⟨gb114, 1, none⟩ = some (.slice none 0 0) := (blk_cell BK114.out 1).trans rfl; have hfz20_0 := blk_frozen BK114.out 0; have hfz20_1 := blk_frozen BK114.out 1; obtain ⟨Ao21, co21, eo21⟩ := Kd.R_slice HO112.out; subst eo21) | ((with_reducible refine gate_callee (f := 18) rfl ?_); refine goesL_ (some 29) rfl rfl Try.func18 (by kernel_rfl) rfl #[.agg #[.slice Ao19 t107.length co19, .slice Ao21 t110.length co21], .slice A1 l1.length c1] rfl (by (try simp only [List.map_toArray, List.map_cons, List.map_nil]); first | done | rfl | (simp only [List.length_drop, List.length_take]; rfl)) ?_; (with_reducible refine (imprimaturlaw06_Config.calls k _ _ t107 _ _ t110 _ _ l1 t115 _ ?side1 ?side2 ?side3 ?side4 ?side5 ?side6 A6.out).mono ?_); (case side1 => refine (Kd.R_reads' (e := 3) (base := w.heap.size) (ok := fun k_ => (some k_ ≠ (.slice Ao15 t101.length co15 : Value).ownBlock ∧ (some k_ ≠ (.slice Ao18 t104.length co18 : Value).ownBlock ∧ some k_ ≠ (.slice Ao21 t110.length co21 : Value).ownBlock))) (n := t107.length) (c := co19) ?_).2.2; exact (by (with_reducible repeat (first | apply Kd.R_alloc | apply Kd.R_drewN | apply Kd.R_drew)); exact (Kd.R_mono (Kd.R_mono (Kd.R_far (p := ⟨gb114, 1, none⟩) (Kd.R_far (p := ⟨gb114, 0, none⟩) (Kd.R_far (p := ⟨gb113, 1, none⟩) (Kd.R_far (p := ⟨gb113, 0, none⟩) (Kd.R_types (Kd.R_types HO109.out BK113.out (by decide)) BK114.out (by decide)) (fun _ hk => hk.1.2) (.slice Ao15 t101.length co15)) (fun _ hk => hk.1.2) (.slice Ao18 t104.length co18)) (fun _ hk => hk.2) (.slice Ao19 t107.length co19)) (fun _ hk => hk.2) (.slice Ao21 t110.length co21)) (fun _ h_ => h_.1)) (fun _ h_ => h_.1)))); (case side2 => exact (Kd.R_reads' HO109.out).2.1); (case side3 => refine (Kd.R_reads' (e := 3) (base := w.heap.size) (ok := fun k_ => (some k_ ≠ (.slice Ao15 t101.length co15 : Value).ownBlock ∧ (some k_ ≠ (.slice Ao18 t104.length co18 : Value).ownBlock ∧ some k_ ≠ (.slice Ao19 t107.length co19 : Value).ownBlock))) (n := t110.length) (c := co21) ?_).2.2; exact (by (with_reducible repeat (first | apply Kd.R_alloc | apply Kd.R_drewN | apply Kd.R_drew)); exact (Kd.R_mono (Kd.R_mono (Kd.R_far (p := ⟨gb114, 1, none⟩) (Kd.R_far (p := ⟨gb114, 0, none⟩) (Kd.R_far (p := ⟨gb113, 1, none⟩) (Kd.R_far (p := ⟨gb113, 0, none⟩) (Kd.R_types (Kd.R_types HO112.out BK113.out (by decide)) BK114.out (by decide)) (fun _ hk => hk.1.2) (.slice Ao15 t101.length co15)) (fun _ hk => hk.1.2) (.slice Ao18 t104.length co18)) (fun _ hk => hk.2) (.slice Ao19 t107.length co19)) (fun _ hk => hk.2) (.slice Ao21 t110.length co21)) (fun _ h_ => h_.1)) (fun _ h_ => h_.1)))); (case side4 => exact (Kd.R_reads' HO112.out).2.1); (case side5 => exact Kd.C_below HR1.out (by repeat (first | (with_reducible first | exact HB.out | apply below_alloc | apply pw_below_drewN | apply below_drew1 | refine below_set ?_ GE113.out | refine below_set ?_ GE114.out) | exact HB.out))); (case side6 => exact HC1.out); rintro e w22 ⟨rfl, hb⟩; refine ⟨_, rfl, ?_⟩; have n0_ := Aside0.mk (Kd.R_below (by (with_reducible repeat (first | apply Kd.R_alloc | apply Kd.R_drewN | apply Kd.R_drew)); exact (Kd.R_mono (Kd.R_mono (Kd.R_far (p := ⟨gb114, 1, none⟩) (Kd.R_far (p := ⟨gb114, 0, none⟩) (Kd.R_far (p := ⟨gb113, 1, none⟩) (Kd.R_far (p := ⟨gb113, 0, none⟩) (Kd.R_types (Kd.R_types HO103.out BK113.out (by decide)) BK114.out (by decide)) (fun _ hk => hk.1.2) (.slice Ao15 t101.length co15)) (fun _ hk => hk.1.2) (.slice Ao18 t104.length co18)) (fun _ hk => hk.2) (.slice Ao19 t107.length co19)) (fun _ hk => hk.2) (.slice Ao21 t110.length co21)) (fun _ h_ => h_.1)) (fun _ h_ => h_.1))) hb); have n1_ := Aside0.mk (Kd.R_below (by (with_reducible repeat (first | apply Kd.R_alloc | apply Kd.R_drewN | apply Kd.R_drew)); exact (Kd.R_mono (Kd.R_mono (Kd.R_far (p := ⟨gb114, 1, none⟩) (Kd.R_far (p := ⟨gb114, 0, none⟩) (Kd.R_far (p := ⟨gb113, 1, none⟩) (Kd.R_far (p := ⟨gb113, 0, none⟩) (Kd.R_types (Kd.R_types HO106.out BK113.out (by decide)) BK114.out (by decide)) (fun _ hk => hk.1.2) (.slice Ao15 t101.length co15)) (fun _ hk => hk.1.2) (.slice Ao18 t104.length co18)) (fun _ hk => hk.2) (.slice Ao19 t107.length co19)) (fun _ hk => hk.2) (.slice Ao21 t110.length co21)) (fun _ h_ => h_.1)) (fun _ h_ => h_.1))) hb); have n2_ := Aside0.mk (Kd.R_below (by (with_reducible repeat (first | apply Kd.R_alloc | apply Kd.R_drewN | apply Kd.R_drew)); exact (Kd.R_mono (Kd.R_mono (Kd.R_far (p := ⟨gb114, 1, none⟩) (Kd.R_far (p := ⟨gb114, 0, none⟩) (Kd.R_far (p := ⟨gb113, 1, none⟩) (Kd.R_far (p := ⟨gb113, 0, none⟩) (Kd.R_types (Kd.R_types HO109.out BK113.out (by decide)) BK114.out (by decide)) (fun _ hk => hk.1.2) (.slice Ao15 t101.length co15)) (fun _ hk => hk.1.2) (.slice Ao18 t104.length co18)) (fun _ hk => hk.2) (.slice Ao19 t107.length co19)) (fun _ hk => hk.2) (.slice Ao21 t110.length co21)) (fun _ h_ => h_.1)) (fun _ h_ => h_.1))) hb); have n3_ := Aside0.mk (Kd.R_below (by (with_reducible repeat (first | apply Kd.R_alloc | apply Kd.R_drewN | apply Kd.R_drew)); exact (Kd.R_mono (Kd.R_mono (Kd.R_far (p := ⟨gb114, 1, none⟩) (Kd.R_far (p := ⟨gb114, 0, none⟩) (Kd.R_far (p := ⟨gb113, 1, none⟩) (Kd.R_far (p := ⟨gb113, 0, none⟩) (Kd.R_types (Kd.R_types HO112.out BK113.out (by decide)) BK114.out (by decide)) (fun _ hk => hk.1.2) (.slice Ao15 t101.length co15)) (fun _ hk => hk.1.2) (.slice Ao18 t104.length co18)) (fun _ hk => hk.2) (.slice Ao19 t107.length co19)) (fun _ hk => hk.2) (.slice Ao21 t110.length co21)) (fun _ h_ => h_.1)) (fun _ h_ => h_.1))) hb); have n4_ := Aside0.mk (blk_below (g := gb113) (o := .cells #[.slice Ao15 t101.length co15, .slice Ao18 t104.length co18] 24 (0, 0)) (by (with_reducible repeat (first | refine blk_drewN ?_ _ | refine blk_drew ?_ | refine blk_alloc ?_ _)); refine blk_far ?_ NB113_114.out _; (with_reducible repeat (first | refine blk_drewN ?_ _ | refine blk_drew ?_ | refine blk_alloc ?_ _)); refine blk_far ?_ NB113_114.out _; (with_reducible repeat (first | refine blk_drewN ?_ _ | refine blk_drew ?_ | refine blk_alloc ?_ _)); refine blk_put (cs := #[.slice Ao15 t101.length co15, .slice none 0 0]) ?_ 1 _ rfl; (with_reducible repeat (first | refine blk_drewN ?_ _ | refine blk_drew ?_ | refine blk_alloc ?_ _)); refine blk_put (cs := #[.slice none 0 0, .slice none 0 0]) ?_ 0 _ rfl; (with_reducible repeat (first | refine blk_drewN ?_ _ | refine blk_drew ?_ | refine blk_alloc ?_ _)); exact BK113.out) hb); have n5_ := Aside0.mk (blk_below (g := gb114) (o := .cells #[.slice Ao19 t107.length co19, .slice Ao21 t110.length co21] 25 (0, 0)) (by (with_reducible repeat (first | refine blk_drewN ?_ _ | refine blk_drew ?_ | refine blk_alloc ?_ _)); refine blk_put (cs := #[.slice Ao19 t107.length co19, .slice none 0 0]) ?_ 1 _ rfl; (with_reducible repeat (first | refine blk_drewN ?_ _ | refine blk_drew ?_ | refine blk_alloc ?_ _)); refine blk_put (cs := #[.slice none 0 0, .slice none 0 0]) ?_ 0 _ rfl; (with_reducible repeat (first | refine blk_drewN ?_ _ | refine blk_drew ?_ | refine blk_alloc ?_ _)); refine blk_far ?_ NB114_113.out _; (with_reducible repeat (first | refine blk_drewN ?_ _ | refine blk_drew ?_ | refine blk_alloc ?_ _)); refine blk_far ?_ NB114_113.out _; (with_reducible repeat (first | refine blk_drewN ?_ _ | refine blk_drew ?_ | refine blk_alloc ?_ _)); exact BK114.out) hb); have n6_ := Aside0.mk (below_step (by repeat (first | (with_reducible first | exact HB.out | apply below_alloc | apply pw_below_drewN | apply below_drew1 | refine below_set ?_ GE113.out | refine below_set ?_ GE114.out) | exact HB.out)) hb); clear HO103; clear HO106; clear HO109; clear HO112; clear BK113; clear BK114; clear HB; have HO103 := n0_; have HO106 := n1_; have HO109 := n2_; have HO112 := n3_; have BK113 := n4_; have BK114 := n5_; have HB := n6_; clear n0_ n1_ n2_ n3_ n4_ n5_ n6_; (try clear hb); (try clear hb2); (try clear hk); (try clear hi); have hcz23_0 : w22.cell? ⟨gb113, 0, none⟩ = some (.slice Ao15 t101.length co15) := (blk_cell BK113.out 0).trans rfl; have hcz23_1 : w22.cell? ⟨gb113, 1, none⟩ = some (.slice Ao18 t104.length co18) := (blk_cell BK113.out 1).trans rfl; have hfz23_0 := blk_frozen BK113.out 0; have hfz23_1 := blk_frozen BK113.out 1) | ((with_reducible refine gate_callee (f := 19) rfl ?_); refine goesL_ (some 35) rfl rfl Try.func19 (by kernel_rfl) rfl #[.int .i64 a2, .int .i64 (wrap64 ((t101.length : Int) + 1))] rfl (by (try simp only [List.map_toArray, List.map_cons, List.map_nil]); first | done | rfl | (simp only [List.length_drop, List.length_take]; rfl)) ?_; (with_reducible refine (imprimaturkeep_Within.calls a2 (wrap64 ((t101.length : Int) + 1)) t116 _ A7.out).mono ?_); rintro e w' ⟨rfl, ⟨nd, rfl⟩⟩; refine ⟨_, rfl, ?_⟩; have hcz24_0 : w22.cell? ⟨gb114, 0, none⟩ = some (.slice Ao19 t107.length co19) := (blk_cell BK114.out 0).trans rfl; have hcz24_1 : w22.cell? ⟨gb114, 1, none⟩ = some (.slice Ao21 t110.length co21) := (blk_cell BK114.out 1).trans rfl; have hfz24_0 := blk_frozen BK114.out 0; have hfz24_1 := blk_frozen BK114.out 1) | ((with_reducible refine gate_callee (f := 22) rfl ?_); refine goesL_ (some 39) rfl rfl Try.func22 (by kernel_rfl) rfl #[.agg #[.slice Ao19 t107.length co19, .slice Ao21 t110.length co21], .slice A3 l3.length c3] rfl (by (try simp only [List.map_toArray, List.map_cons, List.map_nil]); first | done | rfl | (simp only [List.length_drop, List.length_take]; rfl)) ?_; (with_reducible refine (imprimaturlaw07_Past.calls k _ _ t107 _ _ t110 _ _ l3 t117 _ ?side1 ?side2 ?side3 ?side4 ?side5 ?side6 A8.out).mono ?_); (case side1 => repeat (first | exact (Kd.R_reads' HO109.out).2.2 | (with_reducible refine Kd.C_alloc ?_ _) | (with_reducible refine Kd.C_drewN ?_ _) | (with_reducible refine Kd.C_drew ?_))); (case side2 => exact (Kd.R_reads' HO109.out).2.1); (case side3 => repeat (first | exact (Kd.R_reads' HO112.out).2.2 | (with_reducible refine Kd.C_alloc ?_ _) | (with_reducible refine Kd.C_drewN ?_ _) | (with_reducible refine Kd.C_drew ?_))); (case side4 => exact (Kd.R_reads' HO112.out).2.1); (case side5 => repeat (first | exact (Kd.C_below HR3.out (by repeat (first | (with_reducible first | exact HB.out | apply below_alloc | apply pw_below_drewN | apply below_drew1 | refine below_set ?_ GE113.out | refine below_set ?_ GE114.out) | exact HB.out))) | (with_reducible refine Kd.C_alloc ?_ _) | (with_reducible refine Kd.C_drewN ?_ _) | (with_reducible refine Kd.C_drew ?_))); (case side6 => exact HC3.out); rintro e w25 ⟨v118, rfl, ho0, hb⟩; refine ⟨_, rfl, ?_⟩; have n0_ := Aside0.mk (Kd.R_below (by (with_reducible repeat (first | apply Kd.R_alloc | apply Kd.R_drewN | apply Kd.R_drew)); exact HO103.out) hb); have n1_ := Aside0.mk (Kd.R_below (by (with_reducible repeat (first | apply Kd.R_alloc | apply Kd.R_drewN | apply Kd.R_drew)); exact HO106.out) hb); have n2_ := Aside0.mk (Kd.R_below (by (with_reducible repeat (first | apply Kd.R_alloc | apply Kd.R_drewN | apply Kd.R_drew)); exact HO109.out) hb); have n3_ := Aside0.mk (Kd.R_below (by (with_reducible repeat (first | apply Kd.R_alloc | apply Kd.R_drewN | apply Kd.R_drew)); exact HO112.out) hb); have n4_ := Aside0.mk (Kd.R_lower ho0 (below_size (by repeat (first | (with_reducible first | exact HB.out | apply below_alloc | apply pw_below_drewN | apply below_drew1 | refine below_set ?_ GE113.out | refine below_set ?_ GE114.out) | exact HB.out)))); have n5_ := Aside0.mk (blk_below (g := gb113) (o := .cells #[.slice Ao15 t101.length co15, .slice Ao18 t104.length co18] 24 (0, 0)) (by (with_reducible repeat (first | refine blk_drewN ?_ _ | refine blk_drew ?_ | refine blk_alloc ?_ _)); exact BK113.out) hb); have n6_ := Aside0.mk (blk_below (g := gb114) (o := .cells #[.slice Ao19 t107.length co19, .slice Ao21 t110.length co21] 25 (0, 0)) (by (with_reducible repeat (first | refine blk_drewN ?_ _ | refine blk_drew ?_ | refine blk_alloc ?_ _)); exact BK114.out) hb); have n7_ := Aside0.mk (below_step (by repeat (first | (with_reducible first | exact HB.out | apply below_alloc | apply pw_below_drewN | apply below_drew1 | refine below_set ?_ GE113.out | refine below_set ?_ GE114.out) | exact HB.out)) hb); clear HO103; clear HO106; clear HO109; clear HO112; clear BK113; clear BK114; clear HB; have HO103 := n0_; have HO106 := n1_; have HO109 := n2_; have HO112 := n3_; have HO119 := n4_; have BK113 := n5_; have BK114 := n6_; have HB := n7_; clear n0_ n1_ n2_ n3_ n4_ n5_ n6_ n7_; (try clear hb); (try clear hb2); (try clear hk); (try clear hi); (try clear ho0); have hcz26_0 : w25.cell? ⟨gb113, 0, none⟩ = some (.slice Ao15 t101.length co15) := (blk_cell BK113.out 0).trans rfl; have hcz26_1 : w25.cell? ⟨gb113, 1, none⟩ = some (.slice Ao18 t104.length co18) := (blk_cell BK113.out 1).trans rfl; have hfz26_0 := blk_frozen BK113.out 0; have hfz26_1 := blk_frozen BK113.out 1) | ((with_reducible refine gate_callee (f := 23) rfl ?_); refine goesL_ (some 43) rfl rfl Try.func23 (by kernel_rfl) rfl #[.agg #[.slice Ao15 t101.length co15, .slice Ao18 t104.length co18], .int .u32 t115, .int .i64 (wrap64 (t116 - 1))] rfl (by (try simp only [List.map_toArray, List.map_cons, List.map_nil]); first | done | rfl | (simp only [List.length_drop, List.length_take]; rfl)) ?_; (with_reducible refine (enter_Leave.calls k _ _ t101 _ _ t104 t115 (wrap64 (t116 - 1)) t120 _ ?side1 ?side2 ?side3 ?side4 A9.out).mono ?_); (case side1 => repeat (first | exact (Kd.R_reads' HO103.out).2.2 | (with_reducible refine Kd.C_alloc ?_ _) | (with_reducible refine Kd.C_drewN ?_ _) | (with_reducible refine Kd.C_drew ?_))); (case side2 => exact (Kd.R_reads' HO103.out).2.1); (case side3 => repeat (first | exact (Kd.R_reads' HO106.out).2.2 | (with_reducible refine Kd.C_alloc ?_ _) | (with_reducible refine Kd.C_drewN ?_ _) | (with_reducible refine Kd.C_drew ?_))); (case side4 => exact (Kd.R_reads' HO106.out).2.1); rintro e w27 ⟨v121, rfl, ho0, hb⟩; refine ⟨_, rfl, ?_⟩; have n0_ := Aside0.mk (Kd.R_elder' (by (with_reducible repeat (first | apply Kd.R_alloc | apply Kd.R_drewN | apply Kd.R_drew)); exact HO103.out) (Kd.R_base ho0) hb); have n1_ := Aside0.mk (Kd.R_elder' (by (with_reducible repeat (first | apply Kd.R_alloc | apply Kd.R_drewN | apply Kd.R_drew)); exact HO106.out) (Kd.R_base ho0) hb); have n2_ := Aside0.mk (Kd.R_elder' (by (with_reducible repeat (first | apply Kd.R_alloc | apply Kd.R_drewN | apply Kd.R_drew)); exact HO109.out) (Kd.R_base ho0) hb); have n3_ := Aside0.mk (Kd.R_elder' (by (with_reducible repeat (first | apply Kd.R_alloc | apply Kd.R_drewN | apply Kd.R_drew)); exact HO112.out) (Kd.R_base ho0) hb); have n4_ := Aside0.mk (Kd.R_below (by (with_reducible repeat (first | apply Kd.R_alloc | apply Kd.R_drewN | apply Kd.R_drew)); exact HO119.out) hb); have n5_ := Aside0.mk (Kd.R_lower (Kd.R_new' (Kd.R_new' (Kd.R_new' (Kd.R_new' ho0 (Kd.R_lt (by (with_reducible repeat (first | apply Kd.R_alloc | apply Kd.R_drewN | apply Kd.R_drew)); exact HO103.out))) (Kd.R_lt (by (with_reducible repeat (first | apply Kd.R_alloc | apply Kd.R_drewN | apply Kd.R_drew)); exact HO106.out))) (Kd.R_lt (by (with_reducible repeat (first | apply Kd.R_alloc | apply Kd.R_drewN | apply Kd.R_drew)); exact HO109.out))) (Kd.R_lt (by (with_reducible repeat (first | apply Kd.R_alloc | apply Kd.R_drewN | apply Kd.R_drew)); exact HO112.out))) (below_size (by repeat (first | (with_reducible first | exact HB.out | apply below_alloc | apply pw_below_drewN | apply below_drew1 | refine below_set ?_ GE113.out | refine below_set ?_ GE114.out) | exact HB.out)))); have n6_ := Aside0.mk (blk_below (g := gb113) (o := .cells #[.slice Ao15 t101.length co15, .slice Ao18 t104.length co18] 24 (0, 0)) (by (with_reducible repeat (first | refine blk_drewN ?_ _ | refine blk_drew ?_ | refine blk_alloc ?_ _)); exact BK113.out) hb); have n7_ := Aside0.mk (blk_below (g := gb114) (o := .cells #[.slice Ao19 t107.length co19, .slice Ao21 t110.length co21] 25 (0, 0)) (by (with_reducible repeat (first | refine blk_drewN ?_ _ | refine blk_drew ?_ | refine blk_alloc ?_ _)); exact BK114.out) hb); have n8_ := Aside0.mk (below_step (by repeat (first | (with_reducible first | exact HB.out | apply below_alloc | apply pw_below_drewN | apply below_drew1 | refine below_set ?_ GE113.out | refine below_set ?_ GE114.out) | exact HB.out)) hb); clear HO103; clear HO106; clear HO109; clear HO112; clear HO119; clear BK113; clear BK114; clear HB; have HO103 := n0_; have HO106 := n1_; have HO109 := n2_; have HO112 := n3_; have HO119 := n4_; have HO122 := n5_; have BK113 := n6_; have BK114 := n7_; have HB := n8_; clear n0_ n1_ n2_ n3_ n4_ n5_ n6_ n7_ n8_; (try clear hb); (try clear hb2); (try clear hk); (try clear hi); (try clear ho0); have hcz28_0 : w27.cell? ⟨gb113, 0, none⟩ = some (.slice Ao15 t101.length co15) := (blk_cell BK113.out 0).trans rfl; have hcz28_1 : w27.cell? ⟨gb113, 1, none⟩ = some (.slice Ao18 t104.length co18) := (blk_cell BK113.out 1).trans rfl; have hfz28_0 := blk_frozen BK113.out 0; have hfz28_1 := blk_frozen BK113.out 1; obtain ⟨Ao29, co29, eo29⟩ := Kd.R_slice HO122.out; subst eo29; obtain ⟨Ao30, co30, eo30⟩ := Kd.R_slice HO119.out; subst eo30) | ((with_reducible refine gate_callee (f := 24) rfl ?_); refine goesL_ (some 48) rfl rfl Try.func24 (by kernel_rfl) rfl #[.agg #[.slice Ao15 t101.length co15, .slice Ao18 t104.length co18], .int .u32 t115, .slice Ao29 t120.length co29, .slice Ao30 t117.length co30] rfl (by (try simp only [List.map_toArray, List.map_cons, List.map_nil]); first | done | rfl | (simp only [List.length_drop, List.length_take]; rfl)) ?_; (with_reducible refine (enter_Remember.calls k _ _ t101 _ _ t104 t115 _ _ t120 _ _ t117 t123 _ ?side1 ?side2 ?side3 ?side4 ?side5 ?side6 ?side7 ?side8 A10.out).mono ?_); (case side1 => repeat (first | exact (Kd.R_reads' HO103.out).2.2 | (with_reducible refine Kd.C_alloc ?_ _) | (with_reducible refine Kd.C_drewN ?_ _) | (with_reducible refine Kd.C_drew ?_))); (case side2 => exact (Kd.R_reads' HO103.out).2.1); (case side3 => repeat (first | exact (Kd.R_reads' HO106.out).2.2 | (with_reducible refine Kd.C_alloc ?_ _) | (with_reducible refine Kd.C_drewN ?_ _) | (with_reducible refine Kd.C_drew ?_))); (case side4 => exact (Kd.R_reads' HO106.out).2.1); (case side5 => repeat (first | exact (Kd.R_reads' HO122.out).2.2 | (with_reducible refine Kd.C_alloc ?_ _) | (with_reducible refine Kd.C_drewN ?_ _) | (with_reducible refine Kd.C_drew ?_))); (case side6 => exact (Kd.R_reads' HO122.out).2.1); (case side7 => repeat (first | exact (Kd.R_reads' HO119.out).2.2 | (with_reducible refine Kd.C_alloc ?_ _) | (with_reducible refine Kd.C_drewN ?_ _) | (with_reducible refine Kd.C_drew ?_))); (case side8 => exact (Kd.R_reads' HO119.out).2.1); rintro e w31 ⟨v124, rfl, ho0, hb⟩; refine ⟨_, rfl, ?_⟩; have n0_ := Aside0.mk (Kd.R_below (by (with_reducible repeat (first | apply Kd.R_alloc | apply Kd.R_drewN | apply Kd.R_drew)); exact HO103.out) hb); have n1_ := Aside0.mk (Kd.R_below (by (with_reducible repeat (first | apply Kd.R_alloc | apply Kd.R_drewN | apply Kd.R_drew)); exact HO106.out) hb); have n2_ := Aside0.mk (Kd.R_below (by (with_reducible repeat (first | apply Kd.R_alloc | apply Kd.R_drewN | apply Kd.R_drew)); exact HO109.out) hb); have n3_ := Aside0.mk (Kd.R_below (by (with_reducible repeat (first | apply Kd.R_alloc | apply Kd.R_drewN | apply Kd.R_drew)); exact HO112.out) hb); have n4_ := Aside0.mk (Kd.R_elder' (by (with_reducible repeat (first | apply Kd.R_alloc | apply Kd.R_drewN | apply Kd.R_drew)); exact HO119.out) (Kd.R_base ho0) hb); have n5_ := Aside0.mk (Kd.R_below (by (with_reducible repeat (first | apply Kd.R_alloc | apply Kd.R_drewN | apply Kd.R_drew)); exact HO122.out) hb); have n6_ := Aside0.mk (Kd.R_lower (Kd.R_new' ho0 (Kd.R_lt (by (with_reducible repeat (first | apply Kd.R_alloc | apply Kd.R_drewN | apply Kd.R_drew)); exact HO119.out))) (below_size (by repeat (first | (with_reducible first | exact HB.out | apply below_alloc | apply pw_below_drewN | apply below_drew1 | refine below_set ?_ GE113.out | refine below_set ?_ GE114.out) | exact HB.out)))); have n7_ := Aside0.mk (blk_below (g := gb113) (o := .cells #[.slice Ao15 t101.length co15, .slice Ao18 t104.length co18] 24 (0, 0)) (by (with_reducible repeat (first | refine blk_drewN ?_ _ | refine blk_drew ?_ | refine blk_alloc ?_ _)); exact BK113.out) hb); have n8_ := Aside0.mk (blk_below (g := gb114) (o := .cells #[.slice Ao19 t107.length co19, .slice Ao21 t110.length co21] 25 (0, 0)) (by (with_reducible repeat (first | refine blk_drewN ?_ _ | refine blk_drew ?_ | refine blk_alloc ?_ _)); exact BK114.out) hb); have n9_ := Aside0.mk (below_step (by repeat (first | (with_reducible first | exact HB.out | apply below_alloc | apply pw_below_drewN | apply below_drew1 | refine below_set ?_ GE113.out | refine below_set ?_ GE114.out) | exact HB.out)) hb); clear HO103; clear HO106; clear HO109; clear HO112; clear HO119; clear HO122; clear BK113; clear BK114; clear HB; have HO103 := n0_; have HO106 := n1_; have HO109 := n2_; have HO112 := n3_; have HO119 := n4_; have HO122 := n5_; have HO125 := n6_; have BK113 := n7_; have BK114 := n8_; have HB := n9_; clear n0_ n1_ n2_ n3_ n4_ n5_ n6_ n7_ n8_ n9_; (try clear hb); (try clear hb2); (try clear hk); (try clear hi); (try clear ho0); obtain ⟨Ao32, co32, eo32⟩ := Kd.R_slice HO125.out; subst eo32; have hcz33_0 : w31.cell? ⟨gb113, 0, none⟩ = some (.slice Ao15 t101.length co15) := (blk_cell BK113.out 0).trans rfl; have hcz33_1 : w31.cell? ⟨gb113, 1, none⟩ = some (.slice Ao18 t104.length co18) := (blk_cell BK113.out 1).trans rfl; have hfz33_0 := blk_frozen BK113.out 0; have hfz33_1 := blk_frozen BK113.out 1))
  go_loopg [58] k (fun kq v58 w' => ∃ (x58_1 : Int), v58 = .int .i64 x58_1 ∧ Aside0 (imprimaturlaw07_EnterMemory.l0 kq t115 t117 t120 t123 (t101.length : Int) x58_1 t101 t104 = some r) ∧ Aside0 (kq ≤ k) ∧ Aside0 (Kd.R (Kd.int .u32) 29 w' w.heap.size (fun k_ => some k_ ≠ ((.slice Ao32 t123.length co32) : Value).ownBlock) (.slice Ao30 t117.length co30) t117) ∧ Aside0 (Kd.R (Kd.int .i64) 3 w' w.heap.size (fun k_ => some k_ ≠ ((.slice Ao15 t101.length co15) : Value).ownBlock ∧ some k_ ≠ ((.slice Ao18 t104.length co18) : Value).ownBlock ∧ some k_ ≠ ((.slice Ao19 t107.length co19) : Value).ownBlock ∧ some k_ ≠ ((.slice Ao21 t110.length co21) : Value).ownBlock) (.slice Ao29 t120.length co29) t120) ∧ Aside0 (Kd.R (Kd.int .u32) 29 w' w.heap.size (fun k_ => some k_ ≠ ((.slice Ao30 t117.length co30) : Value).ownBlock) (.slice Ao32 t123.length co32) t123) ∧ Aside0 (Kd.R (Kd.int .i64) 3 w' w.heap.size (fun k_ => some k_ ≠ ((.slice Ao29 t120.length co29) : Value).ownBlock ∧ some k_ ≠ ((.slice Ao18 t104.length co18) : Value).ownBlock ∧ some k_ ≠ ((.slice Ao19 t107.length co19) : Value).ownBlock ∧ some k_ ≠ ((.slice Ao21 t110.length co21) : Value).ownBlock) (.slice Ao15 t101.length co15) t101) ∧ Aside0 (Kd.R (Kd.int .i64) 3 w' w.heap.size (fun k_ => some k_ ≠ ((.slice Ao29 t120.length co29) : Value).ownBlock ∧ some k_ ≠ ((.slice Ao15 t101.length co15) : Value).ownBlock ∧ some k_ ≠ ((.slice Ao19 t107.length co19) : Value).ownBlock ∧ some k_ ≠ ((.slice Ao21 t110.length co21) : Value).ownBlock) (.slice Ao18 t104.length co18) t104) ∧ Aside0 (Kd.R (Kd.int .i64) 3 w' w.heap.size (fun k_ => some k_ ≠ ((.slice Ao29 t120.length co29) : Value).ownBlock ∧ some k_ ≠ ((.slice Ao15 t101.length co15) : Value).ownBlock ∧ some k_ ≠ ((.slice Ao18 t104.length co18) : Value).ownBlock ∧ some k_ ≠ ((.slice Ao21 t110.length co21) : Value).ownBlock) (.slice Ao19 t107.length co19) t107) ∧ Aside0 (Kd.R (Kd.int .i64) 3 w' w.heap.size (fun k_ => some k_ ≠ ((.slice Ao29 t120.length co29) : Value).ownBlock ∧ some k_ ≠ ((.slice Ao15 t101.length co15) : Value).ownBlock ∧ some k_ ≠ ((.slice Ao18 t104.length co18) : Value).ownBlock ∧ some k_ ≠ ((.slice Ao19 t107.length co19) : Value).ownBlock) (.slice Ao21 t110.length co21) t110) ∧ Aside0 (w'.heap[gb113]? = some (.cells #[(.slice Ao15 t101.length co15), (.slice Ao18 t104.length co18)] 24 (0, 0))) ∧ Aside0 (w'.heap[gb114]? = some (.cells #[(.slice Ao19 t107.length co19), (.slice Ao21 t110.length co21)] 25 (0, 0))) ∧ Aside0 (Below w.heap.size w w'))
  case atStart => exact ⟨(0), (by first | rfl | (simp; done) | (simp [*]; done)), H', ⟨Nat.le_refl _⟩, ⟨by (with_reducible repeat (first | apply Kd.R_alloc | apply Kd.R_drewN | apply Kd.R_drew)); exact Kd.R_mono HO119.out (fun _ hk => hk.2)⟩, ⟨by (with_reducible repeat (first | apply Kd.R_alloc | apply Kd.R_drewN | apply Kd.R_drew)); exact Kd.R_mono HO122.out (fun _ hk => ⟨hk.1.1.1.2, ⟨hk.1.1.2, ⟨hk.1.2, hk.2⟩⟩⟩)⟩, ⟨by (with_reducible repeat (first | apply Kd.R_alloc | apply Kd.R_drewN | apply Kd.R_drew)); exact Kd.R_mono HO125.out (fun _ hk => hk.2)⟩, ⟨by (with_reducible repeat (first | apply Kd.R_alloc | apply Kd.R_drewN | apply Kd.R_drew)); exact Kd.R_mono HO103.out (fun _ hk => ⟨hk.2, ⟨hk.1.1, ⟨hk.1.2.1, hk.1.2.2⟩⟩⟩)⟩, ⟨by (with_reducible repeat (first | apply Kd.R_alloc | apply Kd.R_drewN | apply Kd.R_drew)); exact Kd.R_mono HO106.out (fun _ hk => ⟨hk.2, ⟨hk.1.1, ⟨hk.1.2.1, hk.1.2.2⟩⟩⟩)⟩, ⟨by (with_reducible repeat (first | apply Kd.R_alloc | apply Kd.R_drewN | apply Kd.R_drew)); exact Kd.R_mono HO109.out (fun _ hk => ⟨hk.2, ⟨hk.1.1, ⟨hk.1.2.1, hk.1.2.2⟩⟩⟩)⟩, ⟨by (with_reducible repeat (first | apply Kd.R_alloc | apply Kd.R_drewN | apply Kd.R_drew)); exact Kd.R_mono HO112.out (fun _ hk => ⟨hk.2, ⟨hk.1.1, ⟨hk.1.2.1, hk.1.2.2⟩⟩⟩)⟩, ⟨by (with_reducible repeat (first | refine blk_drewN ?_ _ | refine blk_drew ?_ | refine blk_alloc ?_ _)); exact BK113.out⟩, ⟨by (with_reducible repeat (first | refine blk_drewN ?_ _ | refine blk_drew ?_ | refine blk_alloc ?_ _)); exact BK114.out⟩, ⟨by repeat (first | (with_reducible first | exact HB.out | apply below_alloc | apply pw_below_drewN | apply below_drew1 | refine below_set ?_ GE113.out | refine below_set ?_ GE114.out) | exact HB.out)⟩⟩
  case round =>
   clear H'
   try clear c1
   try clear c2
   try clear p2
   try clear c3
   try clear p6
   try clear c7
   try clear c11
   try clear c11b0
   try clear c11b1
   try clear c11b2
   try clear c13
   try clear c16
   try clear c18
   try clear c19
   try clear c22
   try clear c23
   try clear c24
   try clear hcz17_0
   try clear hcz17_1
   try clear hcz20_0
   try clear hcz20_1
   try clear hcz23_0
   try clear hcz23_1
   try clear hcz24_0
   try clear hcz24_1
   try clear hcz26_0
   try clear hcz26_1
   try clear hcz28_0
   try clear hcz28_1
   try clear hcz33_0
   try clear hcz33_1
   try clear hfz17_0
   try clear hfz17_1
   try clear hfz20_0
   try clear hfz20_1
   try clear hfz23_0
   try clear hfz23_1
   try clear hfz24_0
   try clear hfz24_1
   try clear hfz26_0
   try clear hfz26_1
   try clear hfz28_0
   try clear hfz28_1
   try clear hfz33_0
   try clear hfz33_1
   obtain ⟨x58_1, rfl, HA, HK1, HO_12, HO_13, HO_14, HO_114000, HO_114001, HO_115000, HO_115001, BK113, BK114, HB⟩ := hrel
   cases gk with
   | zero => exact absurd HA.out (by simp [imprimaturlaw07_EnterMemory.l0])
   | succ k1 =>
    have H := HA.out
    clear HA
    simp only [imprimaturlaw07_EnterMemory.l0] at H
    by_cases c34 : x58_1 < (t101.length : Int)
    ·rw [if_pos c34] at H
     have c34b0 : decide (x58_1 < (t101.length : Int)) = true := decide_eq_true c34
     clear c34
     replace H := Option.bind_eq_some_iff.mp H
     obtain ⟨t127, A350, H⟩ := H
     replace H : (imprimaturlaw07_EnterMemory.l1 k1 t115 t117 t120 t123 x58_1 false (t101.length : Int) x58_1 t127 (t127.length : Int) 0 t101 t104) = some r := H
     have A35 := Aside0.mk A350
     clear A350
     have H' := Aside0.mk H
     clear H
     have hnb36 := NB113_114.out
     have hnc36 := NB114_113.out
     have hcz37_0 : wr.cell? ⟨gb113, 0, none⟩ = some (.slice Ao15 t101.length co15) := (blk_cell BK113.out 0).trans rfl
     have hcz37_1 : wr.cell? ⟨gb113, 1, none⟩ = some (.slice Ao18 t104.length co18) := (blk_cell BK113.out 1).trans rfl
     have hfz37_0 := blk_frozen BK113.out 0
     have hfz37_1 := blk_frozen BK113.out 1
     go_wp2_with (first | ((with_reducible refine gate_callee (f := 25) rfl ?_); refine goesL_ (some 63) rfl rfl Try.func25 (by kernel_rfl) rfl #[.agg #[.slice Ao15 t101.length co15, .slice Ao18 t104.length co18], .int .i64 x58_1] rfl (by (try simp only [List.map_toArray, List.map_cons, List.map_nil]); first | done | rfl | (simp only [List.length_drop, List.length_take]; rfl)) ?_; (with_reducible refine (shape_Kids.calls k1 _ _ t101 _ _ t104 x58_1 t127 _ ?side1 ?side2 ?side3 ?side4 A35.out).mono ?_); (case side1 => repeat (first | exact (Kd.R_reads' HO_114000.out).2.2 | (with_reducible refine Kd.C_alloc ?_ _) | (with_reducible refine Kd.C_drewN ?_ _) | (with_reducible refine Kd.C_drew ?_))); (case side2 => exact (Kd.R_reads' HO_114000.out).2.1); (case side3 => repeat (first | exact (Kd.R_reads' HO_114001.out).2.2 | (with_reducible refine Kd.C_alloc ?_ _) | (with_reducible refine Kd.C_drewN ?_ _) | (with_reducible refine Kd.C_drew ?_))); (case side4 => exact (Kd.R_reads' HO_114001.out).2.1); rintro e w38 ⟨v128, rfl, ho0, hb⟩; refine ⟨_, rfl, ?_⟩; have n0_ := Aside0.mk (Kd.R_below (by (with_reducible repeat (first | apply Kd.R_alloc | apply Kd.R_drewN | apply Kd.R_drew)); exact HO_12.out) hb); have n1_ := Aside0.mk (Kd.R_elder' (by (with_reducible repeat (first | apply Kd.R_alloc | apply Kd.R_drewN | apply Kd.R_drew)); exact HO_13.out) (Kd.R_base ho0) hb); have n2_ := Aside0.mk (Kd.R_below (by (with_reducible repeat (first | apply Kd.R_alloc | apply Kd.R_drewN | apply Kd.R_drew)); exact HO_14.out) hb); have n3_ := Aside0.mk (Kd.R_elder' (by (with_reducible repeat (first | apply Kd.R_alloc | apply Kd.R_drewN | apply Kd.R_drew)); exact HO_114000.out) (Kd.R_base ho0) hb); have n4_ := Aside0.mk (Kd.R_elder' (by (with_reducible repeat (first | apply Kd.R_alloc | apply Kd.R_drewN | apply Kd.R_drew)); exact HO_114001.out) (Kd.R_base ho0) hb); have n5_ := Aside0.mk (Kd.R_elder' (by (with_reducible repeat (first | apply Kd.R_alloc | apply Kd.R_drewN | apply Kd.R_drew)); exact HO_115000.out) (Kd.R_base ho0) hb); have n6_ := Aside0.mk (Kd.R_elder' (by (with_reducible repeat (first | apply Kd.R_alloc | apply Kd.R_drewN | apply Kd.R_drew)); exact HO_115001.out) (Kd.R_base ho0) hb); have n7_ := Aside0.mk (Kd.R_lower (Kd.R_new' (Kd.R_new' (Kd.R_new' (Kd.R_new' (Kd.R_new' ho0 (Kd.R_lt (by (with_reducible repeat (first | apply Kd.R_alloc | apply Kd.R_drewN | apply Kd.R_drew)); exact HO_13.out))) (Kd.R_lt (by (with_reducible repeat (first | apply Kd.R_alloc | apply Kd.R_drewN | apply Kd.R_drew)); exact HO_114000.out))) (Kd.R_lt (by (with_reducible repeat (first | apply Kd.R_alloc | apply Kd.R_drewN | apply Kd.R_drew)); exact HO_114001.out))) (Kd.R_lt (by (with_reducible repeat (first | apply Kd.R_alloc | apply Kd.R_drewN | apply Kd.R_drew)); exact HO_115000.out))) (Kd.R_lt (by (with_reducible repeat (first | apply Kd.R_alloc | apply Kd.R_drewN | apply Kd.R_drew)); exact HO_115001.out))) (below_size (by repeat (first | (with_reducible first | exact HB.out | apply below_alloc | apply pw_below_drewN | apply below_drew1 | refine below_set ?_ GE113.out | refine below_set ?_ GE114.out) | exact HB.out)))); have n8_ := Aside0.mk (blk_below (g := gb113) (o := .cells #[.slice Ao15 t101.length co15, .slice Ao18 t104.length co18] 24 (0, 0)) (by (with_reducible repeat (first | refine blk_drewN ?_ _ | refine blk_drew ?_ | refine blk_alloc ?_ _)); exact BK113.out) hb); have n9_ := Aside0.mk (blk_below (g := gb114) (o := .cells #[.slice Ao19 t107.length co19, .slice Ao21 t110.length co21] 25 (0, 0)) (by (with_reducible repeat (first | refine blk_drewN ?_ _ | refine blk_drew ?_ | refine blk_alloc ?_ _)); exact BK114.out) hb); have n10_ := Aside0.mk (below_step (by repeat (first | (with_reducible first | exact HB.out | apply below_alloc | apply pw_below_drewN | apply below_drew1 | refine below_set ?_ GE113.out | refine below_set ?_ GE114.out) | exact HB.out)) hb); clear HO_12; clear HO_13; clear HO_14; clear HO_114000; clear HO_114001; clear HO_115000; clear HO_115001; clear BK113; clear BK114; clear HB; have HO_12 := n0_; have HO_13 := n1_; have HO_14 := n2_; have HO_114000 := n3_; have HO_114001 := n4_; have HO_115000 := n5_; have HO_115001 := n6_; have HO129 := n7_; have BK113 := n8_; have BK114 := n9_; have HB := n10_; clear n0_ n1_ n2_ n3_ n4_ n5_ n6_ n7_ n8_ n9_ n10_; (try clear hb); (try clear hb2); (try clear hk); (try clear hi); (try clear ho0); obtain ⟨Ao39, co39, eo39⟩ := Kd.R_slice HO129.out; subst eo39))
     go_loopg [16, 65] k1 (fun kq v16 v65 w' => ∃ (x16_2 : Bool) (x65_2 : Int), v16 = .bool x16_2 ∧ v65 = .int .i64 x65_2 ∧ Aside0 (imprimaturlaw07_EnterMemory.l1 kq t115 t117 t120 t123 x58_1 x16_2 (t101.length : Int) x58_1 t127 (t127.length : Int) x65_2 t101 t104 = some r) ∧ Aside0 (kq ≤ k1) ∧ Aside0 (Kd.R (Kd.int .u32) 29 w' w.heap.size (fun k_ => some k_ ≠ ((.slice Ao32 t123.length co32) : Value).ownBlock) (.slice Ao30 t117.length co30) t117) ∧ Aside0 (Kd.R (Kd.int .i64) 3 w' w.heap.size (fun k_ => some k_ ≠ ((.slice Ao39 t127.length co39) : Value).ownBlock ∧ some k_ ≠ ((.slice Ao15 t101.length co15) : Value).ownBlock ∧ some k_ ≠ ((.slice Ao18 t104.length co18) : Value).ownBlock ∧ some k_ ≠ ((.slice Ao19 t107.length co19) : Value).ownBlock ∧ some k_ ≠ ((.slice Ao21 t110.length co21) : Value).ownBlock) (.slice Ao29 t120.length co29) t120) ∧ Aside0 (Kd.R (Kd.int .u32) 29 w' w.heap.size (fun k_ => some k_ ≠ ((.slice Ao30 t117.length co30) : Value).ownBlock) (.slice Ao32 t123.length co32) t123) ∧ Aside0 (Kd.R (Kd.int .i64) 3 w' w.heap.size (fun k_ => some k_ ≠ ((.slice Ao29 t120.length co29) : Value).ownBlock ∧ some k_ ≠ ((.slice Ao15 t101.length co15) : Value).ownBlock ∧ some k_ ≠ ((.slice Ao18 t104.length co18) : Value).ownBlock ∧ some k_ ≠ ((.slice Ao19 t107.length co19) : Value).ownBlock ∧ some k_ ≠ ((.slice Ao21 t110.length co21) : Value).ownBlock) (.slice Ao39 t127.length co39) t127) ∧ Aside0 (Kd.R (Kd.int .i64) 3 w' w.heap.size (fun k_ => some k_ ≠ ((.slice Ao29 t120.length co29) : Value).ownBlock ∧ some k_ ≠ ((.slice Ao39 t127.length co39) : Value).ownBlock ∧ some k_ ≠ ((.slice Ao18 t104.length co18) : Value).ownBlock ∧ some k_ ≠ ((.slice Ao19 t107.length co19) : Value).ownBlock ∧ some k_ ≠ ((.slice Ao21 t110.length co21) : Value).ownBlock) (.slice Ao15 t101.length co15) t101) ∧ Aside0 (Kd.R (Kd.int .i64) 3 w' w.heap.size (fun k_ => some k_ ≠ ((.slice Ao29 t120.length co29) : Value).ownBlock ∧ some k_ ≠ ((.slice Ao39 t127.length co39) : Value).ownBlock ∧ some k_ ≠ ((.slice Ao15 t101.length co15) : Value).ownBlock ∧ some k_ ≠ ((.slice Ao19 t107.length co19) : Value).ownBlock ∧ some k_ ≠ ((.slice Ao21 t110.length co21) : Value).ownBlock) (.slice Ao18 t104.length co18) t104) ∧ Aside0 (Kd.R (Kd.int .i64) 3 w' w.heap.size (fun k_ => some k_ ≠ ((.slice Ao29 t120.length co29) : Value).ownBlock ∧ some k_ ≠ ((.slice Ao39 t127.length co39) : Value).ownBlock ∧ some k_ ≠ ((.slice Ao15 t101.length co15) : Value).ownBlock ∧ some k_ ≠ ((.slice Ao18 t104.length co18) : Value).ownBlock ∧ some k_ ≠ ((.slice Ao21 t110.length co21) : Value).ownBlock) (.slice Ao19 t107.length co19) t107) ∧ Aside0 (Kd.R (Kd.int .i64) 3 w' w.heap.size (fun k_ => some k_ ≠ ((.slice Ao29 t120.length co29) : Value).ownBlock ∧ some k_ ≠ ((.slice Ao39 t127.length co39) : Value).ownBlock ∧ some k_ ≠ ((.slice Ao15 t101.length co15) : Value).ownBlock ∧ some k_ ≠ ((.slice Ao18 t104.length co18) : Value).ownBlock ∧ some k_ ≠ ((.slice Ao19 t107.length co19) : Value).ownBlock) (.slice Ao21 t110.length co21) t110) ∧ Aside0 (w'.heap[gb113]? = some (.cells #[(.slice Ao15 t101.length co15), (.slice Ao18 t104.length co18)] 24 (0, 0))) ∧ Aside0 (w'.heap[gb114]? = some (.cells #[(.slice Ao19 t107.length co19), (.slice Ao21 t110.length co21)] 25 (0, 0))) ∧ Aside0 (Below w.heap.size w w'))
     case atStart => exact ⟨(false), (0), (by first | rfl | (simp; done) | (simp [*]; done)), (by first | rfl | (simp; done) | (simp [*]; done)), H', ⟨Nat.le_refl _⟩, ⟨by (with_reducible repeat (first | apply Kd.R_alloc | apply Kd.R_drewN | apply Kd.R_drew)); exact HO_12.out⟩, ⟨by (with_reducible repeat (first | apply Kd.R_alloc | apply Kd.R_drewN | apply Kd.R_drew)); exact Kd.R_mono HO_13.out (fun _ hk => ⟨hk.2, ⟨hk.1.1, ⟨hk.1.2.1, ⟨hk.1.2.2.1, hk.1.2.2.2⟩⟩⟩⟩)⟩, ⟨by (with_reducible repeat (first | apply Kd.R_alloc | apply Kd.R_drewN | apply Kd.R_drew)); exact HO_14.out⟩, ⟨by (with_reducible repeat (first | apply Kd.R_alloc | apply Kd.R_drewN | apply Kd.R_drew)); exact Kd.R_mono HO129.out (fun _ hk => ⟨hk.1.1.1.1.2, ⟨hk.1.1.1.2, ⟨hk.1.1.2, ⟨hk.1.2, hk.2⟩⟩⟩⟩)⟩, ⟨by (with_reducible repeat (first | apply Kd.R_alloc | apply Kd.R_drewN | apply Kd.R_drew)); exact Kd.R_mono HO_114000.out (fun _ hk => ⟨hk.1.1, ⟨hk.2, ⟨hk.1.2.1, ⟨hk.1.2.2.1, hk.1.2.2.2⟩⟩⟩⟩)⟩, ⟨by (with_reducible repeat (first | apply Kd.R_alloc | apply Kd.R_drewN | apply Kd.R_drew)); exact Kd.R_mono HO_114001.out (fun _ hk => ⟨hk.1.1, ⟨hk.2, ⟨hk.1.2.1, ⟨hk.1.2.2.1, hk.1.2.2.2⟩⟩⟩⟩)⟩, ⟨by (with_reducible repeat (first | apply Kd.R_alloc | apply Kd.R_drewN | apply Kd.R_drew)); exact Kd.R_mono HO_115000.out (fun _ hk => ⟨hk.1.1, ⟨hk.2, ⟨hk.1.2.1, ⟨hk.1.2.2.1, hk.1.2.2.2⟩⟩⟩⟩)⟩, ⟨by (with_reducible repeat (first | apply Kd.R_alloc | apply Kd.R_drewN | apply Kd.R_drew)); exact Kd.R_mono HO_115001.out (fun _ hk => ⟨hk.1.1, ⟨hk.2, ⟨hk.1.2.1, ⟨hk.1.2.2.1, hk.1.2.2.2⟩⟩⟩⟩)⟩, ⟨by (with_reducible repeat (first | refine blk_drewN ?_ _ | refine blk_drew ?_ | refine blk_alloc ?_ _)); exact BK113.out⟩, ⟨by (with_reducible repeat (first | refine blk_drewN ?_ _ | refine blk_drew ?_ | refine blk_alloc ?_ _)); exact BK114.out⟩, ⟨by repeat (first | (with_reducible first | exact HB.out | apply below_alloc | apply pw_below_drewN | apply below_drew1 | refine below_set ?_ GE113.out | refine below_set ?_ GE114.out) | exact HB.out)⟩⟩
     case round =>
      clear H'
      try clear c1
      try clear c2
      try clear p2
      try clear c3
      try clear p6
      try clear c7
      try clear c11
      try clear c11b0
      try clear c11b1
      try clear c11b2
      try clear c13
      try clear c16
      try clear c18
      try clear c19
      try clear c22
      try clear c23
      try clear c24
      try clear c25
      try clear c34
      try clear c34b0
      try clear c36
      try clear hcz17_0
      try clear hcz17_1
      try clear hcz20_0
      try clear hcz20_1
      try clear hcz23_0
      try clear hcz23_1
      try clear hcz24_0
      try clear hcz24_1
      try clear hcz26_0
      try clear hcz26_1
      try clear hcz28_0
      try clear hcz28_1
      try clear hcz33_0
      try clear hcz33_1
      try clear hcz37_0
      try clear hcz37_1
      try clear hfz17_0
      try clear hfz17_1
      try clear hfz20_0
      try clear hfz20_1
      try clear hfz23_0
      try clear hfz23_1
      try clear hfz24_0
      try clear hfz24_1
      try clear hfz26_0
      try clear hfz26_1
      try clear hfz28_0
      try clear hfz28_1
      try clear hfz33_0
      try clear hfz33_1
      try clear hfz37_0
      try clear hfz37_1
      try clear p2
      try clear p6
      obtain ⟨x16_2, x65_2, rfl, rfl, HA, HK2, HO_12, HO_13, HO_14, HO_63, HO_114000, HO_114001, HO_115000, HO_115001, BK113, BK114, HB⟩ := hrel
      cases gk with
      | zero => exact absurd HA.out (by simp [imprimaturlaw07_EnterMemory.l1])
      | succ k2 =>
       have H := HA.out
       clear HA
       simp only [imprimaturlaw07_EnterMemory.l1] at H
       by_cases c40 : x65_2 < (t127.length : Int)
       ·rw [if_pos c40] at H
        have c40b0 : decide (x65_2 < (t127.length : Int)) = true := decide_eq_true c40
        clear c40
        by_cases c41 : 0 ≤ x65_2
        ·rw [if_pos c41] at H
         have c41b0 : decide (0 ≤ x65_2) = true := decide_eq_true c41
         clear c41
         by_cases c42 : x65_2 < (t127.length : Int)
         ·rw [if_pos c42] at H
          have c42b0 : decide (x65_2 < (t127.length : Int)) = true := decide_eq_true c42
          clear c42
          by_cases c43 : x16_2 = true
          ·subst c43
           have H1 : (imprimaturlaw07_EnterMemory.l1 k2 t115 t117 t120 t123 x58_1 true (t101.length : Int) x58_1 t127 (t127.length : Int) (wrap64 (x65_2 + 1)) t101 t104) = some r := by rw [if_pos rfl] at H; exact H
           clear H
           have H := H1
           clear H1
           have H' := Aside0.mk H
           clear H
           have p130 : 0 ≤ (x65_2 : Int) := of_decide_eq_true (by first | (with_reducible assumption) | assumption)
           have q130 : x65_2 < (t127.length : Int) := of_decide_eq_true (by first | (with_reducible assumption) | assumption)
           obtain ⟨ad130, e130, hx130_0⟩ := Kd.at_int (Kd.R_reads' HO_63.out).2.2 x65_2 p130 q130
           cases e130
           replace p130 := eq_true p130
           replace q130 := eq_true q130
           go_wp2
           go_roundg k2
           case measure => have := HK1.out; have := HK2.out; omega
           case rel => exact ⟨(true), (wrap64 (x65_2 + 1)), (by first | rfl | (simp; done) | (simp [*]; done)), (by first | rfl | (simp; done) | (simp [*]; done)), H', ⟨by have := HK1.out; have := HK2.out; omega⟩, ⟨by (with_reducible repeat (first | apply Kd.R_alloc | apply Kd.R_drewN | apply Kd.R_drew)); exact HO_12.out⟩, ⟨by (with_reducible repeat (first | apply Kd.R_alloc | apply Kd.R_drewN | apply Kd.R_drew)); exact HO_13.out⟩, ⟨by (with_reducible repeat (first | apply Kd.R_alloc | apply Kd.R_drewN | apply Kd.R_drew)); exact HO_14.out⟩, ⟨by (with_reducible repeat (first | apply Kd.R_alloc | apply Kd.R_drewN | apply Kd.R_drew)); exact HO_63.out⟩, ⟨by (with_reducible repeat (first | apply Kd.R_alloc | apply Kd.R_drewN | apply Kd.R_drew)); exact HO_114000.out⟩, ⟨by (with_reducible repeat (first | apply Kd.R_alloc | apply Kd.R_drewN | apply Kd.R_drew)); exact HO_114001.out⟩, ⟨by (with_reducible repeat (first | apply Kd.R_alloc | apply Kd.R_drewN | apply Kd.R_drew)); exact HO_115000.out⟩, ⟨by (with_reducible repeat (first | apply Kd.R_alloc | apply Kd.R_drewN | apply Kd.R_drew)); exact HO_115001.out⟩, ⟨by (with_reducible repeat (first | refine blk_drewN ?_ _ | refine blk_drew ?_ | refine blk_alloc ?_ _)); exact BK113.out⟩, ⟨by (with_reducible repeat (first | refine blk_drewN ?_ _ | refine blk_drew ?_ | refine blk_alloc ?_ _)); exact BK114.out⟩, ⟨by repeat (first | (with_reducible first | exact HB.out | apply below_alloc | apply pw_below_drewN | apply below_drew1 | refine below_set ?_ GE113.out | refine below_set ?_ GE114.out) | exact HB.out)⟩⟩
          ·replace c43 := Bool.eq_false_iff.mpr c43
           subst c43
           have H1 : (if 0 ≤ (rd t127 x65_2) then (if (rd t127 x65_2) < (t101.length : Int) then (imprimaturlaw07_EnterMemory.l1 k2 t115 t117 t120 t123 x58_1 (decide ((rd t101 (rd t127 x65_2)) ≥ 3)) (t101.length : Int) x58_1 t127 (t127.length : Int) (wrap64 (x65_2 + 1)) t101 t104) else (none)) else (none)) = some r := by rw [if_neg (show ¬ (false = true) by decide)] at H; exact H
           clear H
           have H := H1
           clear H1
           by_cases c44 : 0 ≤ (rd t127 x65_2)
           ·rw [if_pos c44] at H
            have c44b0 : decide (0 ≤ (rd t127 x65_2)) = true := decide_eq_true c44
            clear c44
            by_cases c45 : (rd t127 x65_2) < (t101.length : Int)
            ·rw [if_pos c45] at H
             have c45b0 : decide ((rd t127 x65_2) < (t101.length : Int)) = true := decide_eq_true c45
             clear c45
             have H' := Aside0.mk H
             clear H
             have p130 : 0 ≤ (x65_2 : Int) := of_decide_eq_true (by first | (with_reducible assumption) | assumption)
             have q130 : x65_2 < (t127.length : Int) := of_decide_eq_true (by first | (with_reducible assumption) | assumption)
             obtain ⟨ad130, e130, hx130_0⟩ := Kd.at_int (Kd.R_reads' HO_63.out).2.2 x65_2 p130 q130
             cases e130
             replace p130 := eq_true p130
             replace q130 := eq_true q130
             have hnb46 := NB113_114.out
             have hnc46 := NB114_113.out
             have hcz47_0 : wr.cell? ⟨gb113, 0, none⟩ = some (.slice Ao15 t101.length co15) := (blk_cell BK113.out 0).trans rfl
             have hcz47_1 : wr.cell? ⟨gb113, 1, none⟩ = some (.slice Ao18 t104.length co18) := (blk_cell BK113.out 1).trans rfl
             have hfz47_0 := blk_frozen BK113.out 0
             have hfz47_1 := blk_frozen BK113.out 1
             have p131 : 0 ≤ ((rd t127 x65_2) : Int) := of_decide_eq_true (by first | (with_reducible assumption) | assumption)
             have q131 : (rd t127 x65_2) < (t101.length : Int) := of_decide_eq_true (by first | (with_reducible assumption) | assumption)
             obtain ⟨ad131, e131, hx131_0⟩ := Kd.at_int (Kd.R_reads' HO_114000.out).2.2 (rd t127 x65_2) p131 q131
             cases e131
             replace p131 := eq_true p131
             replace q131 := eq_true q131
             go_wp2
             go_roundg k2
             case measure => have := HK1.out; have := HK2.out; omega
             case rel => exact ⟨(decide ((rd t101 (rd t127 x65_2)) ≥ 3)), (wrap64 (x65_2 + 1)), (by first | rfl | (simp; done) | (simp [*]; done)), (by first | rfl | (simp; done) | (simp [*]; done)), H', ⟨by have := HK1.out; have := HK2.out; omega⟩, ⟨by (with_reducible repeat (first | apply Kd.R_alloc | apply Kd.R_drewN | apply Kd.R_drew)); exact HO_12.out⟩, ⟨by (with_reducible repeat (first | apply Kd.R_alloc | apply Kd.R_drewN | apply Kd.R_drew)); exact HO_13.out⟩, ⟨by (with_reducible repeat (first | apply Kd.R_alloc | apply Kd.R_drewN | apply Kd.R_drew)); exact HO_14.out⟩, ⟨by (with_reducible repeat (first | apply Kd.R_alloc | apply Kd.R_drewN | apply Kd.R_drew)); exact HO_63.out⟩, ⟨by (with_reducible repeat (first | apply Kd.R_alloc | apply Kd.R_drewN | apply Kd.R_drew)); exact HO_114000.out⟩, ⟨by (with_reducible repeat (first | apply Kd.R_alloc | apply Kd.R_drewN | apply Kd.R_drew)); exact HO_114001.out⟩, ⟨by (with_reducible repeat (first | apply Kd.R_alloc | apply Kd.R_drewN | apply Kd.R_drew)); exact HO_115000.out⟩, ⟨by (with_reducible repeat (first | apply Kd.R_alloc | apply Kd.R_drewN | apply Kd.R_drew)); exact HO_115001.out⟩, ⟨by (with_reducible repeat (first | refine blk_drewN ?_ _ | refine blk_drew ?_ | refine blk_alloc ?_ _)); exact BK113.out⟩, ⟨by (with_reducible repeat (first | refine blk_drewN ?_ _ | refine blk_drew ?_ | refine blk_alloc ?_ _)); exact BK114.out⟩, ⟨by repeat (first | (with_reducible first | exact HB.out | apply below_alloc | apply pw_below_drewN | apply below_drew1 | refine below_set ?_ GE113.out | refine below_set ?_ GE114.out) | exact HB.out)⟩⟩
            ·rw [if_neg c45] at H
             exact absurd H (by simp)
           ·rw [if_neg c44] at H
            exact absurd H (by simp)
         ·rw [if_neg c42] at H
          exact absurd H (by simp)
        ·rw [if_neg c41] at H
         exact absurd H (by simp)
       ·rw [if_neg c40] at H
        have c40b0 : decide (x65_2 < (t127.length : Int)) = false := decide_eq_false c40
        clear c40
        have HC48 := Aside0.mk H
        clear H
        go_upto_if 82 with (fail)
        go_cut [19] (fun v19 wc => ∃ (kq : Nat) (x19_47 : Int), v19 = .int .u32 x19_47 ∧ Aside0 (imprimaturlaw07_EnterMemory.j2 kq t115 t117 t120 t123 x58_1 x16_2 x19_47 (t101.length : Int) x58_1 t101 t104 = some r) ∧ Aside0 (kq ≤ k2) ∧ Aside0 (Kd.R (Kd.int .u32) 29 wc w.heap.size (fun k_ => some k_ ≠ ((.slice Ao32 t123.length co32) : Value).ownBlock) (.slice Ao30 t117.length co30) t117) ∧ Aside0 (Kd.R (Kd.int .i64) 3 wc w.heap.size (fun k_ => some k_ ≠ ((.slice Ao15 t101.length co15) : Value).ownBlock ∧ some k_ ≠ ((.slice Ao18 t104.length co18) : Value).ownBlock ∧ some k_ ≠ ((.slice Ao19 t107.length co19) : Value).ownBlock ∧ some k_ ≠ ((.slice Ao21 t110.length co21) : Value).ownBlock) (.slice Ao29 t120.length co29) t120) ∧ Aside0 (Kd.R (Kd.int .u32) 29 wc w.heap.size (fun k_ => some k_ ≠ ((.slice Ao30 t117.length co30) : Value).ownBlock) (.slice Ao32 t123.length co32) t123) ∧ Aside0 (Kd.R (Kd.int .i64) 3 wc w.heap.size (fun k_ => some k_ ≠ ((.slice Ao29 t120.length co29) : Value).ownBlock ∧ some k_ ≠ ((.slice Ao18 t104.length co18) : Value).ownBlock ∧ some k_ ≠ ((.slice Ao19 t107.length co19) : Value).ownBlock ∧ some k_ ≠ ((.slice Ao21 t110.length co21) : Value).ownBlock) (.slice Ao15 t101.length co15) t101) ∧ Aside0 (Kd.R (Kd.int .i64) 3 wc w.heap.size (fun k_ => some k_ ≠ ((.slice Ao29 t120.length co29) : Value).ownBlock ∧ some k_ ≠ ((.slice Ao15 t101.length co15) : Value).ownBlock ∧ some k_ ≠ ((.slice Ao19 t107.length co19) : Value).ownBlock ∧ some k_ ≠ ((.slice Ao21 t110.length co21) : Value).ownBlock) (.slice Ao18 t104.length co18) t104) ∧ Aside0 (Kd.R (Kd.int .i64) 3 wc w.heap.size (fun k_ => some k_ ≠ ((.slice Ao29 t120.length co29) : Value).ownBlock ∧ some k_ ≠ ((.slice Ao15 t101.length co15) : Value).ownBlock ∧ some k_ ≠ ((.slice Ao18 t104.length co18) : Value).ownBlock ∧ some k_ ≠ ((.slice Ao21 t110.length co21) : Value).ownBlock) (.slice Ao19 t107.length co19) t107) ∧ Aside0 (Kd.R (Kd.int .i64) 3 wc w.heap.size (fun k_ => some k_ ≠ ((.slice Ao29 t120.length co29) : Value).ownBlock ∧ some k_ ≠ ((.slice Ao15 t101.length co15) : Value).ownBlock ∧ some k_ ≠ ((.slice Ao18 t104.length co18) : Value).ownBlock ∧ some k_ ≠ ((.slice Ao19 t107.length co19) : Value).ownBlock) (.slice Ao21 t110.length co21) t110) ∧ Aside0 (wc.heap[gb113]? = some (.cells #[(.slice Ao15 t101.length co15), (.slice Ao18 t104.length co18)] 24 (0, 0))) ∧ Aside0 (wc.heap[gb114]? = some (.cells #[(.slice Ao19 t107.length co19), (.slice Ao21 t110.length co21)] 25 (0, 0))) ∧ Aside0 (Below w.heap.size w wc))
        case first =>
         have H := HC48.out
         clear HC48
         by_cases c49 : x58_1 < (t117.length : Int)
         ·rw [if_pos c49] at H
          have c49b0 : decide (x58_1 < (t117.length : Int)) = true := decide_eq_true c49
          clear c49
          (first | rw [c49b0] | (simp only [i64_w, i32_w]; rw [c49b0]) | skip)
          by_cases c50 : 0 ≤ x58_1
          ·rw [if_pos c50] at H
           have c50b0 : decide (0 ≤ x58_1) = true := decide_eq_true c50
           clear c50
           have H' := Aside0.mk H
           clear H
           have p132 : 0 ≤ (x58_1 : Int) := of_decide_eq_true (by first | (with_reducible assumption) | assumption)
           have q132 : x58_1 < (t117.length : Int) := of_decide_eq_true (by first | (with_reducible assumption) | assumption)
           obtain ⟨ad132, e132, hx132_0⟩ := Kd.at_int (Kd.R_reads' HO_12.out).2.2 x58_1 p132 q132
           cases e132
           replace p132 := eq_true p132
           replace q132 := eq_true q132
           go_wp2
           go_meet
           case rel => exact ⟨_, (rd t117 x58_1), (by first | rfl | (simp; done) | (simp [*]; done)), H', ⟨by have := HK1.out; have := HK2.out; first | omega | exact Nat.le_refl _⟩, ⟨by (with_reducible repeat (first | apply Kd.R_alloc | apply Kd.R_drewN | apply Kd.R_drew)); exact HO_12.out⟩, ⟨by (with_reducible repeat (first | apply Kd.R_alloc | apply Kd.R_drewN | apply Kd.R_drew)); exact Kd.R_mono HO_13.out (fun _ hk => ⟨hk.2.1, ⟨hk.2.2.1, ⟨hk.2.2.2.1, hk.2.2.2.2⟩⟩⟩)⟩, ⟨by (with_reducible repeat (first | apply Kd.R_alloc | apply Kd.R_drewN | apply Kd.R_drew)); exact HO_14.out⟩, ⟨by (with_reducible repeat (first | apply Kd.R_alloc | apply Kd.R_drewN | apply Kd.R_drew)); exact Kd.R_mono HO_114000.out (fun _ hk => ⟨hk.1, ⟨hk.2.2.1, ⟨hk.2.2.2.1, hk.2.2.2.2⟩⟩⟩)⟩, ⟨by (with_reducible repeat (first | apply Kd.R_alloc | apply Kd.R_drewN | apply Kd.R_drew)); exact Kd.R_mono HO_114001.out (fun _ hk => ⟨hk.1, ⟨hk.2.2.1, ⟨hk.2.2.2.1, hk.2.2.2.2⟩⟩⟩)⟩, ⟨by (with_reducible repeat (first | apply Kd.R_alloc | apply Kd.R_drewN | apply Kd.R_drew)); exact Kd.R_mono HO_115000.out (fun _ hk => ⟨hk.1, ⟨hk.2.2.1, ⟨hk.2.2.2.1, hk.2.2.2.2⟩⟩⟩)⟩, ⟨by (with_reducible repeat (first | apply Kd.R_alloc | apply Kd.R_drewN | apply Kd.R_drew)); exact Kd.R_mono HO_115001.out (fun _ hk => ⟨hk.1, ⟨hk.2.2.1, ⟨hk.2.2.2.1, hk.2.2.2.2⟩⟩⟩)⟩, ⟨by (with_reducible repeat (first | refine blk_drewN ?_ _ | refine blk_drew ?_ | refine blk_alloc ?_ _)); exact BK113.out⟩, ⟨by (with_reducible repeat (first | refine blk_drewN ?_ _ | refine blk_drew ?_ | refine blk_alloc ?_ _)); exact BK114.out⟩, ⟨by repeat (first | (with_reducible first | exact HB.out | apply below_alloc | apply pw_below_drewN | apply below_drew1 | refine below_set ?_ GE113.out | refine below_set ?_ GE114.out) | exact HB.out)⟩⟩
          ·rw [if_neg c50] at H
           exact absurd H (by simp)
         ·rw [if_neg c49] at H
          have c49b0 : decide (x58_1 < (t117.length : Int)) = false := decide_eq_false c49
          clear c49
          (first | rw [c49b0] | (simp only [i64_w, i32_w]; rw [c49b0]) | skip)
          have H' := Aside0.mk H
          clear H
          go_wp2
          go_meet
          case rel => exact ⟨_, (0), (by first | rfl | (simp; done) | (simp [*]; done)), H', ⟨by have := HK1.out; have := HK2.out; first | omega | exact Nat.le_refl _⟩, ⟨by (with_reducible repeat (first | apply Kd.R_alloc | apply Kd.R_drewN | apply Kd.R_drew)); exact HO_12.out⟩, ⟨by (with_reducible repeat (first | apply Kd.R_alloc | apply Kd.R_drewN | apply Kd.R_drew)); exact Kd.R_mono HO_13.out (fun _ hk => ⟨hk.2.1, ⟨hk.2.2.1, ⟨hk.2.2.2.1, hk.2.2.2.2⟩⟩⟩)⟩, ⟨by (with_reducible repeat (first | apply Kd.R_alloc | apply Kd.R_drewN | apply Kd.R_drew)); exact HO_14.out⟩, ⟨by (with_reducible repeat (first | apply Kd.R_alloc | apply Kd.R_drewN | apply Kd.R_drew)); exact Kd.R_mono HO_114000.out (fun _ hk => ⟨hk.1, ⟨hk.2.2.1, ⟨hk.2.2.2.1, hk.2.2.2.2⟩⟩⟩)⟩, ⟨by (with_reducible repeat (first | apply Kd.R_alloc | apply Kd.R_drewN | apply Kd.R_drew)); exact Kd.R_mono HO_114001.out (fun _ hk => ⟨hk.1, ⟨hk.2.2.1, ⟨hk.2.2.2.1, hk.2.2.2.2⟩⟩⟩)⟩, ⟨by (with_reducible repeat (first | apply Kd.R_alloc | apply Kd.R_drewN | apply Kd.R_drew)); exact Kd.R_mono HO_115000.out (fun _ hk => ⟨hk.1, ⟨hk.2.2.1, ⟨hk.2.2.2.1, hk.2.2.2.2⟩⟩⟩)⟩, ⟨by (with_reducible repeat (first | apply Kd.R_alloc | apply Kd.R_drewN | apply Kd.R_drew)); exact Kd.R_mono HO_115001.out (fun _ hk => ⟨hk.1, ⟨hk.2.2.1, ⟨hk.2.2.2.1, hk.2.2.2.2⟩⟩⟩)⟩, ⟨by (with_reducible repeat (first | refine blk_drewN ?_ _ | refine blk_drew ?_ | refine blk_alloc ?_ _)); exact BK113.out⟩, ⟨by (with_reducible repeat (first | refine blk_drewN ?_ _ | refine blk_drew ?_ | refine blk_alloc ?_ _)); exact BK114.out⟩, ⟨by repeat (first | (with_reducible first | exact HB.out | apply below_alloc | apply pw_below_drewN | apply below_drew1 | refine below_set ?_ GE113.out | refine below_set ?_ GE114.out) | exact HB.out)⟩⟩
        case rest =>
         clear HC48
         try clear c1
         try clear p1
         try clear q1
         try clear hx1
         try clear c2
         try clear p2
         try clear c3
         try clear c4
         try clear c5
         try clear p6
         try clear c7
         try clear c11
         try clear c11b0
         try clear c11b1
         try clear c11b2
         try clear c13
         try clear p13
         try clear q13
         try clear hx13
         try clear c16
         try clear c18
         try clear c19
         try clear c22
         try clear c23
         try clear c24
         try clear c25
         try clear c34
         try clear c34b0
         try clear c36
         try clear c40
         try clear c40b0
         try clear c41
         try clear c41b0
         try clear c42
         try clear c42b0
         try clear c43
         try clear c44
         try clear c44b0
         try clear c45
         try clear c45b0
         try clear c46
         try clear c49
         try clear c49b0
         try clear c50
         try clear c50b0
         try clear hcz17_0
         try clear hcz17_1
         try clear hcz20_0
         try clear hcz20_1
         try clear hcz23_0
         try clear hcz23_1
         try clear hcz24_0
         try clear hcz24_1
         try clear hcz26_0
         try clear hcz26_1
         try clear hcz28_0
         try clear hcz28_1
         try clear hcz33_0
         try clear hcz33_1
         try clear hcz37_0
         try clear hcz37_1
         try clear hcz47_0
         try clear hcz47_1
         try clear hfz17_0
         try clear hfz17_1
         try clear hfz20_0
         try clear hfz20_1
         try clear hfz23_0
         try clear hfz23_1
         try clear hfz24_0
         try clear hfz24_1
         try clear hfz26_0
         try clear hfz26_1
         try clear hfz28_0
         try clear hfz28_1
         try clear hfz33_0
         try clear hfz33_1
         try clear hfz37_0
         try clear hfz37_1
         try clear hfz47_0
         try clear hfz47_1
         try clear hx130_0
         try clear hx131_0
         try clear hx132_0
         try clear p130
         try clear p131
         try clear p132
         try clear p2
         try clear p6
         try clear q130
         try clear q131
         try clear q132
         obtain ⟨kq, x19_47, rfl, HA, HJ47, HO_12, HO_13, HO_14, HO_114000, HO_114001, HO_115000, HO_115001, BK113, BK114, HB⟩ := hcut
         cases kq with
         | zero => exact absurd HA.out (by simp [imprimaturlaw07_EnterMemory.j2])
         | succ kj47 =>
          have H := HA.out
          clear HA
          simp only [imprimaturlaw07_EnterMemory.j2] at H
          have HC51 := Aside0.mk H
          clear H
          go_upto_region 22 with (fail)
          go_cut [97] (fun v97 wc => ∃ (kq : Nat) (x97_50 : Bool), v97 = .bool x97_50 ∧ Aside0 (imprimaturlaw07_EnterMemory.j3 kq t115 t117 t120 t123 x58_1 x19_47 (t101.length : Int) x58_1 x97_50 t101 t104 = some r) ∧ Aside0 (kq ≤ kj47) ∧ Aside0 (Kd.R (Kd.int .u32) 29 wc w.heap.size (fun k_ => some k_ ≠ ((.slice Ao32 t123.length co32) : Value).ownBlock) (.slice Ao30 t117.length co30) t117) ∧ Aside0 (Kd.R (Kd.int .i64) 3 wc w.heap.size (fun k_ => some k_ ≠ ((.slice Ao15 t101.length co15) : Value).ownBlock ∧ some k_ ≠ ((.slice Ao18 t104.length co18) : Value).ownBlock ∧ some k_ ≠ ((.slice Ao19 t107.length co19) : Value).ownBlock ∧ some k_ ≠ ((.slice Ao21 t110.length co21) : Value).ownBlock) (.slice Ao29 t120.length co29) t120) ∧ Aside0 (Kd.R (Kd.int .u32) 29 wc w.heap.size (fun k_ => some k_ ≠ ((.slice Ao30 t117.length co30) : Value).ownBlock) (.slice Ao32 t123.length co32) t123) ∧ Aside0 (Kd.R (Kd.int .i64) 3 wc w.heap.size (fun k_ => some k_ ≠ ((.slice Ao29 t120.length co29) : Value).ownBlock ∧ some k_ ≠ ((.slice Ao18 t104.length co18) : Value).ownBlock ∧ some k_ ≠ ((.slice Ao19 t107.length co19) : Value).ownBlock ∧ some k_ ≠ ((.slice Ao21 t110.length co21) : Value).ownBlock) (.slice Ao15 t101.length co15) t101) ∧ Aside0 (Kd.R (Kd.int .i64) 3 wc w.heap.size (fun k_ => some k_ ≠ ((.slice Ao29 t120.length co29) : Value).ownBlock ∧ some k_ ≠ ((.slice Ao15 t101.length co15) : Value).ownBlock ∧ some k_ ≠ ((.slice Ao19 t107.length co19) : Value).ownBlock ∧ some k_ ≠ ((.slice Ao21 t110.length co21) : Value).ownBlock) (.slice Ao18 t104.length co18) t104) ∧ Aside0 (Kd.R (Kd.int .i64) 3 wc w.heap.size (fun k_ => some k_ ≠ ((.slice Ao29 t120.length co29) : Value).ownBlock ∧ some k_ ≠ ((.slice Ao15 t101.length co15) : Value).ownBlock ∧ some k_ ≠ ((.slice Ao18 t104.length co18) : Value).ownBlock ∧ some k_ ≠ ((.slice Ao21 t110.length co21) : Value).ownBlock) (.slice Ao19 t107.length co19) t107) ∧ Aside0 (Kd.R (Kd.int .i64) 3 wc w.heap.size (fun k_ => some k_ ≠ ((.slice Ao29 t120.length co29) : Value).ownBlock ∧ some k_ ≠ ((.slice Ao15 t101.length co15) : Value).ownBlock ∧ some k_ ≠ ((.slice Ao18 t104.length co18) : Value).ownBlock ∧ some k_ ≠ ((.slice Ao19 t107.length co19) : Value).ownBlock) (.slice Ao21 t110.length co21) t110) ∧ Aside0 (wc.heap[gb113]? = some (.cells #[(.slice Ao15 t101.length co15), (.slice Ao18 t104.length co18)] 24 (0, 0))) ∧ Aside0 (wc.heap[gb114]? = some (.cells #[(.slice Ao19 t107.length co19), (.slice Ao21 t110.length co21)] 25 (0, 0))) ∧ Aside0 (Below w.heap.size w wc))
          case first =>
           have H := HC51.out
           clear HC51
           by_cases c52 : x16_2 = true
           ·subst c52
            have H1 : ((imprimaturlaw07_bits.f kj47 t120).bind fun t133 => (if 0 ≤ (IntKind.u64.wrap (x58_1)) then (imprimaturlaw07_EnterMemory.j3 kj47 t115 t117 t120 t123 x58_1 x19_47 (t101.length : Int) x58_1 ((Go.bits .and .u32 (shr .u32 t133 (IntKind.u64.wrap (x58_1))) 1) == 1) t101 t104) else (none))) = some r := by rw [if_pos rfl] at H; exact H
            clear H
            have H := H1
            clear H1
            replace H := Option.bind_eq_some_iff.mp H
            obtain ⟨t133, A530, H⟩ := H
            replace H : (if 0 ≤ (IntKind.u64.wrap (x58_1)) then (imprimaturlaw07_EnterMemory.j3 kj47 t115 t117 t120 t123 x58_1 x19_47 (t101.length : Int) x58_1 ((Go.bits .and .u32 (shr .u32 t133 (IntKind.u64.wrap (x58_1))) 1) == 1) t101 t104) else (none)) = some r := H
            have A53 := Aside0.mk A530
            clear A530
            obtain ⟨ji54, hji54⟩ : ∃ j_ : Int, (IntKind.u64.wrap (x58_1)) = j_ := ⟨_, rfl⟩
            replace H : (if 0 ≤ (ji54) then (imprimaturlaw07_EnterMemory.j3 kj47 t115 t117 t120 t123 x58_1 x19_47 (t101.length : Int) x58_1 ((Go.bits .and .u32 (shr .u32 t133 (ji54)) 1) == 1) t101 t104) else (none)) = some r := by first | (rw [hji54] at H; exact H) | (simp only [hji54] at H ⊢; exact H)
            (try rw [hji54] at A53)
            by_cases c55 : 0 ≤ (ji54)
            ·rw [if_pos c55] at H
             have c55b0 := eq_true c55
             have c55b1 : decide (0 ≤ (ji54)) = true := decide_eq_true c55
             clear c55
             obtain ⟨ji56, hji56⟩ : ∃ j_ : Int, (shr .u32 t133 (ji54)) = j_ := ⟨_, rfl⟩
             replace H : (imprimaturlaw07_EnterMemory.j3 kj47 t115 t117 t120 t123 x58_1 x19_47 (t101.length : Int) x58_1 ((Go.bits .and .u32 (ji56) 1) == 1) t101 t104) = some r := by first | (rw [hji56] at H; exact H) | (simp only [hji56] at H ⊢; exact H)
             (try rw [hji56] at A53)
             have hji56_ : (t133 / 2 ^ min (ji54).toNat 32) = ji56 := hji56
             have hji56z : (ji54) ≤ 32 → (t133 / 2 ^ (ji54).toNat) = ji56 := shr_small hji56
             have H' := Aside0.mk H
             clear H
             go_wp2_with (first | (go_at_call 26; (with_reducible refine (imprimaturlaw07_bits.calls kj47 _ _ t120 t133 _ ?side1 ?side2 A53.out).mono ?_); (case side1 => repeat (first | exact (Kd.R_reads' HO_13.out).2.2 | (with_reducible refine Kd.C_alloc ?_ _) | (with_reducible refine Kd.C_drewN ?_ _) | (with_reducible refine Kd.C_drew ?_))); (case side2 => exact (Kd.R_reads' HO_13.out).2.1); rintro e w' ⟨rfl, ⟨nd, rfl⟩⟩))
             first | go_meet | (simp only [← hji54, ← hji56]; go_meet)
             case rel => exact ⟨_, (((Go.bits .and .u32 (ji56) 1) == 1)), (by first | rfl | (simp; done) | (simp only [← hji56] <;> (first | rfl | simp)) | (simp [*]; done)), (by first | exact H' | exact ⟨by simp only [hji54, hji56]; exact H'.out⟩), ⟨by have := HK1.out; have := HK2.out; have := HJ47.out; first | omega | exact Nat.le_refl _⟩, ⟨by (with_reducible repeat (first | apply Kd.R_alloc | apply Kd.R_drewN | apply Kd.R_drew)); exact HO_12.out⟩, ⟨by (with_reducible repeat (first | apply Kd.R_alloc | apply Kd.R_drewN | apply Kd.R_drew)); exact HO_13.out⟩, ⟨by (with_reducible repeat (first | apply Kd.R_alloc | apply Kd.R_drewN | apply Kd.R_drew)); exact HO_14.out⟩, ⟨by (with_reducible repeat (first | apply Kd.R_alloc | apply Kd.R_drewN | apply Kd.R_drew)); exact HO_114000.out⟩, ⟨by (with_reducible repeat (first | apply Kd.R_alloc | apply Kd.R_drewN | apply Kd.R_drew)); exact HO_114001.out⟩, ⟨by (with_reducible repeat (first | apply Kd.R_alloc | apply Kd.R_drewN | apply Kd.R_drew)); exact HO_115000.out⟩, ⟨by (with_reducible repeat (first | apply Kd.R_alloc | apply Kd.R_drewN | apply Kd.R_drew)); exact HO_115001.out⟩, ⟨by (with_reducible repeat (first | refine blk_drewN ?_ _ | refine blk_drew ?_ | refine blk_alloc ?_ _)); exact BK113.out⟩, ⟨by (with_reducible repeat (first | refine blk_drewN ?_ _ | refine blk_drew ?_ | refine blk_alloc ?_ _)); exact BK114.out⟩, ⟨by repeat (first | (with_reducible first | exact HB.out | apply below_alloc | apply pw_below_drewN | apply below_drew1 | refine below_set ?_ GE113.out | refine below_set ?_ GE114.out) | exact HB.out)⟩⟩
            ·rw [if_neg c55] at H
             exact absurd H (by simp)
           ·replace c52 := Bool.eq_false_iff.mpr c52
            subst c52
            have H1 : (imprimaturlaw07_EnterMemory.j3 kj47 t115 t117 t120 t123 x58_1 x19_47 (t101.length : Int) x58_1 false t101 t104) = some r := by rw [if_neg (show ¬ (false = true) by decide)] at H; exact H
            clear H
            have H := H1
            clear H1
            have H' := Aside0.mk H
            clear H
            go_wp2
            go_meet
            case rel => exact ⟨_, (false), (by first | rfl | (simp; done) | (simp [*]; done)), H', ⟨by have := HK1.out; have := HK2.out; have := HJ47.out; first | omega | exact Nat.le_refl _⟩, ⟨by (with_reducible repeat (first | apply Kd.R_alloc | apply Kd.R_drewN | apply Kd.R_drew)); exact HO_12.out⟩, ⟨by (with_reducible repeat (first | apply Kd.R_alloc | apply Kd.R_drewN | apply Kd.R_drew)); exact HO_13.out⟩, ⟨by (with_reducible repeat (first | apply Kd.R_alloc | apply Kd.R_drewN | apply Kd.R_drew)); exact HO_14.out⟩, ⟨by (with_reducible repeat (first | apply Kd.R_alloc | apply Kd.R_drewN | apply Kd.R_drew)); exact HO_114000.out⟩, ⟨by (with_reducible repeat (first | apply Kd.R_alloc | apply Kd.R_drewN | apply Kd.R_drew)); exact HO_114001.out⟩, ⟨by (with_reducible repeat (first | apply Kd.R_alloc | apply Kd.R_drewN | apply Kd.R_drew)); exact HO_115000.out⟩, ⟨by (with_reducible repeat (first | apply Kd.R_alloc | apply Kd.R_drewN | apply Kd.R_drew)); exact HO_115001.out⟩, ⟨by (with_reducible repeat (first | refine blk_drewN ?_ _ | refine blk_drew ?_ | refine blk_alloc ?_ _)); exact BK113.out⟩, ⟨by (with_reducible repeat (first | refine blk_drewN ?_ _ | refine blk_drew ?_ | refine blk_alloc ?_ _)); exact BK114.out⟩, ⟨by repeat (first | (with_reducible first | exact HB.out | apply below_alloc | apply pw_below_drewN | apply below_drew1 | refine below_set ?_ GE113.out | refine below_set ?_ GE114.out) | exact HB.out)⟩⟩
          case rest =>
           clear HC51
           try clear c1
           try clear p1
           try clear q1
           try clear hx1
           try clear c2
           try clear p2
           try clear c3
           try clear c4
           try clear c5
           try clear p6
           try clear c7
           try clear c11
           try clear c11b0
           try clear c11b1
           try clear c11b2
           try clear c13
           try clear p13
           try clear q13
           try clear hx13
           try clear c16
           try clear c18
           try clear c19
           try clear c22
           try clear c23
           try clear c24
           try clear c25
           try clear c34
           try clear c34b0
           try clear c36
           try clear c40
           try clear c40b0
           try clear c41
           try clear c41b0
           try clear c42
           try clear c42b0
           try clear c43
           try clear c44
           try clear c44b0
           try clear c45
           try clear c45b0
           try clear c46
           try clear c49
           try clear c49b0
           try clear c50
           try clear c50b0
           try clear c52
           try clear c55
           try clear c55b0
           try clear c55b1
           try clear hcz17_0
           try clear hcz17_1
           try clear hcz20_0
           try clear hcz20_1
           try clear hcz23_0
           try clear hcz23_1
           try clear hcz24_0
           try clear hcz24_1
           try clear hcz26_0
           try clear hcz26_1
           try clear hcz28_0
           try clear hcz28_1
           try clear hcz33_0
           try clear hcz33_1
           try clear hcz37_0
           try clear hcz37_1
           try clear hcz47_0
           try clear hcz47_1
           try clear hfz17_0
           try clear hfz17_1
           try clear hfz20_0
           try clear hfz20_1
           try clear hfz23_0
           try clear hfz23_1
           try clear hfz24_0
           try clear hfz24_1
           try clear hfz26_0
           try clear hfz26_1
           try clear hfz28_0
           try clear hfz28_1
           try clear hfz33_0
           try clear hfz33_1
           try clear hfz37_0
           try clear hfz37_1
           try clear hfz47_0
           try clear hfz47_1
           try clear hx130_0
           try clear hx131_0
           try clear hx132_0
           try clear p1
           try clear p13
           try clear p130
           try clear p131
           try clear p132
           try clear p2
           try clear p6
           try clear q1
           try clear q13
           try clear q130
           try clear q131
           try clear q132
           obtain ⟨kq, x97_50, rfl, HA, HJ50, HO_12, HO_13, HO_14, HO_114000, HO_114001, HO_115000, HO_115001, BK113, BK114, HB⟩ := hcut
           cases kq with
           | zero => exact absurd HA.out (by simp [imprimaturlaw07_EnterMemory.j3])
           | succ kj50 =>
            have H := HA.out
            clear HA
            simp only [imprimaturlaw07_EnterMemory.j3] at H
            by_cases c57 : x97_50 = true
            ·subst c57
             have H1 : (imprimaturlaw07_EnterMemory.l2 kj50 t115 t117 t120 t123 x58_1 0 (t101.length : Int) x58_1 (t101.length : Int) 0 t101 t104) = some r := by rw [if_pos rfl] at H; exact H
             clear H
             have H := H1
             clear H1
             have H' := Aside0.mk H
             clear H
             have hnb58 := NB113_114.out
             have hnc58 := NB114_113.out
             have hcz59_0 : wc.cell? ⟨gb113, 0, none⟩ = some (.slice Ao15 t101.length co15) := (blk_cell BK113.out 0).trans rfl
             have hcz59_1 : wc.cell? ⟨gb113, 1, none⟩ = some (.slice Ao18 t104.length co18) := (blk_cell BK113.out 1).trans rfl
             have hfz59_0 := blk_frozen BK113.out 0
             have hfz59_1 := blk_frozen BK113.out 1
             go_wp2
             go_loopg [20, 101] kj50 (fun kq v20 v101 w' => ∃ (x20_5 : Int) (x101_5 : Int), v20 = .int .u32 x20_5 ∧ v101 = .int .i64 x101_5 ∧ Aside0 (imprimaturlaw07_EnterMemory.l2 kq t115 t117 t120 t123 x58_1 x20_5 (t101.length : Int) x58_1 (t101.length : Int) x101_5 t101 t104 = some r) ∧ Aside0 (kq ≤ kj50) ∧ Aside0 (Kd.R (Kd.int .u32) 29 w' w.heap.size (fun k_ => some k_ ≠ ((.slice Ao32 t123.length co32) : Value).ownBlock) (.slice Ao30 t117.length co30) t117) ∧ Aside0 (Kd.R (Kd.int .i64) 3 w' w.heap.size (fun k_ => some k_ ≠ ((.slice Ao15 t101.length co15) : Value).ownBlock ∧ some k_ ≠ ((.slice Ao18 t104.length co18) : Value).ownBlock ∧ some k_ ≠ ((.slice Ao19 t107.length co19) : Value).ownBlock ∧ some k_ ≠ ((.slice Ao21 t110.length co21) : Value).ownBlock) (.slice Ao29 t120.length co29) t120) ∧ Aside0 (Kd.R (Kd.int .u32) 29 w' w.heap.size (fun k_ => some k_ ≠ ((.slice Ao30 t117.length co30) : Value).ownBlock) (.slice Ao32 t123.length co32) t123) ∧ Aside0 (Kd.R (Kd.int .i64) 3 w' w.heap.size (fun k_ => some k_ ≠ ((.slice Ao29 t120.length co29) : Value).ownBlock ∧ some k_ ≠ ((.slice Ao18 t104.length co18) : Value).ownBlock ∧ some k_ ≠ ((.slice Ao19 t107.length co19) : Value).ownBlock ∧ some k_ ≠ ((.slice Ao21 t110.length co21) : Value).ownBlock) (.slice Ao15 t101.length co15) t101) ∧ Aside0 (Kd.R (Kd.int .i64) 3 w' w.heap.size (fun k_ => some k_ ≠ ((.slice Ao29 t120.length co29) : Value).ownBlock ∧ some k_ ≠ ((.slice Ao15 t101.length co15) : Value).ownBlock ∧ some k_ ≠ ((.slice Ao19 t107.length co19) : Value).ownBlock ∧ some k_ ≠ ((.slice Ao21 t110.length co21) : Value).ownBlock) (.slice Ao18 t104.length co18) t104) ∧ Aside0 (Kd.R (Kd.int .i64) 3 w' w.heap.size (fun k_ => some k_ ≠ ((.slice Ao29 t120.length co29) : Value).ownBlock ∧ some k_ ≠ ((.slice Ao15 t101.length co15) : Value).ownBlock ∧ some k_ ≠ ((.slice Ao18 t104.length co18) : Value).ownBlock ∧ some k_ ≠ ((.slice Ao21 t110.length co21) : Value).ownBlock) (.slice Ao19 t107.length co19) t107) ∧ Aside0 (Kd.R (Kd.int .i64) 3 w' w.heap.size (fun k_ => some k_ ≠ ((.slice Ao29 t120.length co29) : Value).ownBlock ∧ some k_ ≠ ((.slice Ao15 t101.length co15) : Value).ownBlock ∧ some k_ ≠ ((.slice Ao18 t104.length co18) : Value).ownBlock ∧ some k_ ≠ ((.slice Ao19 t107.length co19) : Value).ownBlock) (.slice Ao21 t110.length co21) t110) ∧ Aside0 (w'.heap[gb113]? = some (.cells #[(.slice Ao15 t101.length co15), (.slice Ao18 t104.length co18)] 24 (0, 0))) ∧ Aside0 (w'.heap[gb114]? = some (.cells #[(.slice Ao19 t107.length co19), (.slice Ao21 t110.length co21)] 25 (0, 0))) ∧ Aside0 (Below w.heap.size w w'))
             case atStart => exact ⟨(0), (0), (by first | rfl | (simp; done) | (simp [*]; done)), (by first | rfl | (simp; done) | (simp [*]; done)), H', ⟨Nat.le_refl _⟩, ⟨by (with_reducible repeat (first | apply Kd.R_alloc | apply Kd.R_drewN | apply Kd.R_drew)); exact HO_12.out⟩, ⟨by (with_reducible repeat (first | apply Kd.R_alloc | apply Kd.R_drewN | apply Kd.R_drew)); exact HO_13.out⟩, ⟨by (with_reducible repeat (first | apply Kd.R_alloc | apply Kd.R_drewN | apply Kd.R_drew)); exact HO_14.out⟩, ⟨by (with_reducible repeat (first | apply Kd.R_alloc | apply Kd.R_drewN | apply Kd.R_drew)); exact HO_114000.out⟩, ⟨by (with_reducible repeat (first | apply Kd.R_alloc | apply Kd.R_drewN | apply Kd.R_drew)); exact HO_114001.out⟩, ⟨by (with_reducible repeat (first | apply Kd.R_alloc | apply Kd.R_drewN | apply Kd.R_drew)); exact HO_115000.out⟩, ⟨by (with_reducible repeat (first | apply Kd.R_alloc | apply Kd.R_drewN | apply Kd.R_drew)); exact HO_115001.out⟩, ⟨by (with_reducible repeat (first | refine blk_drewN ?_ _ | refine blk_drew ?_ | refine blk_alloc ?_ _)); exact BK113.out⟩, ⟨by (with_reducible repeat (first | refine blk_drewN ?_ _ | refine blk_drew ?_ | refine blk_alloc ?_ _)); exact BK114.out⟩, ⟨by repeat (first | (with_reducible first | exact HB.out | apply below_alloc | apply pw_below_drewN | apply below_drew1 | refine below_set ?_ GE113.out | refine below_set ?_ GE114.out) | exact HB.out)⟩⟩
             case round =>
              clear H'
              try clear c1
              try clear p1
              try clear q1
              try clear hx1
              try clear c2
              try clear p2
              try clear c3
              try clear c4
              try clear c5
              try clear p6
              try clear c7
              try clear c11
              try clear c11b0
              try clear c11b1
              try clear c11b2
              try clear c13
              try clear p13
              try clear q13
              try clear hx13
              try clear c16
              try clear c18
              try clear c19
              try clear c22
              try clear c23
              try clear c24
              try clear c25
              try clear c34
              try clear c34b0
              try clear c36
              try clear c40
              try clear c40b0
              try clear c41
              try clear c41b0
              try clear c42
              try clear c42b0
              try clear c43
              try clear c44
              try clear c44b0
              try clear c45
              try clear c45b0
              try clear c46
              try clear c49
              try clear c49b0
              try clear c50
              try clear c50b0
              try clear c52
              try clear c55
              try clear c55b0
              try clear c55b1
              try clear c57
              try clear c58
              try clear hcz17_0
              try clear hcz17_1
              try clear hcz20_0
              try clear hcz20_1
              try clear hcz23_0
              try clear hcz23_1
              try clear hcz24_0
              try clear hcz24_1
              try clear hcz26_0
              try clear hcz26_1
              try clear hcz28_0
              try clear hcz28_1
              try clear hcz33_0
              try clear hcz33_1
              try clear hcz37_0
              try clear hcz37_1
              try clear hcz47_0
              try clear hcz47_1
              try clear hcz59_0
              try clear hcz59_1
              try clear hfz17_0
              try clear hfz17_1
              try clear hfz20_0
              try clear hfz20_1
              try clear hfz23_0
              try clear hfz23_1
              try clear hfz24_0
              try clear hfz24_1
              try clear hfz26_0
              try clear hfz26_1
              try clear hfz28_0
              try clear hfz28_1
              try clear hfz33_0
              try clear hfz33_1
              try clear hfz37_0
              try clear hfz37_1
              try clear hfz47_0
              try clear hfz47_1
              try clear hfz59_0
              try clear hfz59_1
              try clear hx130_0
              try clear hx131_0
              try clear hx132_0
              try clear p1
              try clear p13
              try clear p130
              try clear p131
              try clear p132
              try clear p2
              try clear p6
              try clear q1
              try clear q13
              try clear q130
              try clear q131
              try clear q132
              obtain ⟨x20_5, x101_5, rfl, rfl, HA, HK5, HO_12, HO_13, HO_14, HO_114000, HO_114001, HO_115000, HO_115001, BK113, BK114, HB⟩ := hrel
              cases gk with
              | zero => exact absurd HA.out (by simp [imprimaturlaw07_EnterMemory.l2])
              | succ k5 =>
               have H := HA.out
               clear HA
               simp only [imprimaturlaw07_EnterMemory.l2] at H
               by_cases c60 : x101_5 < (t101.length : Int)
               ·rw [if_pos c60] at H
                have c60b0 : decide (x101_5 < (t101.length : Int)) = true := decide_eq_true c60
                clear c60
                by_cases c61 : x101_5 = x58_1
                ·rw [if_pos c61] at H
                 have c61b0 : (x101_5 == x58_1) = true := beq_iff_eq.mpr c61
                 have c61b1 : (x101_5 != x58_1) = false := bne_eq_false_iff_eq.mpr c61
                 clear c61
                 have H' := Aside0.mk H
                 clear H
                 go_wp2
                 go_roundg k5
                 case measure => have := HK1.out; have := HK2.out; have := HJ47.out; have := HJ50.out; have := HK5.out; omega
                 case rel => exact ⟨(x20_5), (wrap64 (x101_5 + 1)), (by first | rfl | (simp; done) | (simp [*]; done)), (by first | rfl | (simp; done) | (simp [*]; done)), H', ⟨by have := HK1.out; have := HK2.out; have := HJ47.out; have := HJ50.out; have := HK5.out; omega⟩, ⟨by (with_reducible repeat (first | apply Kd.R_alloc | apply Kd.R_drewN | apply Kd.R_drew)); exact HO_12.out⟩, ⟨by (with_reducible repeat (first | apply Kd.R_alloc | apply Kd.R_drewN | apply Kd.R_drew)); exact HO_13.out⟩, ⟨by (with_reducible repeat (first | apply Kd.R_alloc | apply Kd.R_drewN | apply Kd.R_drew)); exact HO_14.out⟩, ⟨by (with_reducible repeat (first | apply Kd.R_alloc | apply Kd.R_drewN | apply Kd.R_drew)); exact HO_114000.out⟩, ⟨by (with_reducible repeat (first | apply Kd.R_alloc | apply Kd.R_drewN | apply Kd.R_drew)); exact HO_114001.out⟩, ⟨by (with_reducible repeat (first | apply Kd.R_alloc | apply Kd.R_drewN | apply Kd.R_drew)); exact HO_115000.out⟩, ⟨by (with_reducible repeat (first | apply Kd.R_alloc | apply Kd.R_drewN | apply Kd.R_drew)); exact HO_115001.out⟩, ⟨by (with_reducible repeat (first | refine blk_drewN ?_ _ | refine blk_drew ?_ | refine blk_alloc ?_ _)); exact BK113.out⟩, ⟨by (with_reducible repeat (first | refine blk_drewN ?_ _ | refine blk_drew ?_ | refine blk_alloc ?_ _)); exact BK114.out⟩, ⟨by repeat (first | (with_reducible first | exact HB.out | apply below_alloc | apply pw_below_drewN | apply below_drew1 | refine below_set ?_ GE113.out | refine below_set ?_ GE114.out) | exact HB.out)⟩⟩
                ·rw [if_neg c61] at H
                 have c61b0 : (x101_5 == x58_1) = false := beq_eq_false_iff_ne.mpr c61
                 have c61b1 : (x101_5 != x58_1) = true := bne_iff_ne.mpr c61
                 replace H := Option.bind_eq_some_iff.mp H
                 obtain ⟨t134, A620, H⟩ := H
                 replace H : (if t134 = true then (if 0 ≤ (IntKind.u64.wrap (x101_5)) then (imprimaturlaw07_EnterMemory.l2 k5 t115 t117 t120 t123 x58_1 (Go.bits .or .u32 x20_5 (Go.bits .and .u32 t115 (shl .u32 1 (IntKind.u64.wrap (x101_5))))) (t101.length : Int) x58_1 (t101.length : Int) (wrap64 (x101_5 + 1)) t101 t104) else (none)) else (imprimaturlaw07_EnterMemory.l2 k5 t115 t117 t120 t123 x58_1 x20_5 (t101.length : Int) x58_1 (t101.length : Int) (wrap64 (x101_5 + 1)) t101 t104)) = some r := H
                 have A62 := Aside0.mk A620
                 clear A620
                 by_cases c63 : t134 = true
                 ·subst c63
                  have H1 : (if 0 ≤ (IntKind.u64.wrap (x101_5)) then (imprimaturlaw07_EnterMemory.l2 k5 t115 t117 t120 t123 x58_1 (Go.bits .or .u32 x20_5 (Go.bits .and .u32 t115 (shl .u32 1 (IntKind.u64.wrap (x101_5))))) (t101.length : Int) x58_1 (t101.length : Int) (wrap64 (x101_5 + 1)) t101 t104) else (none)) = some r := by rw [if_pos rfl] at H; exact H
                  clear H
                  have H := H1
                  clear H1
                  obtain ⟨ji64, hji64⟩ : ∃ j_ : Int, (IntKind.u64.wrap (x101_5)) = j_ := ⟨_, rfl⟩
                  replace H : (if 0 ≤ (ji64) then (imprimaturlaw07_EnterMemory.l2 k5 t115 t117 t120 t123 x58_1 (Go.bits .or .u32 x20_5 (Go.bits .and .u32 t115 (shl .u32 1 (ji64)))) (t101.length : Int) x58_1 (t101.length : Int) (wrap64 (x101_5 + 1)) t101 t104) else (none)) = some r := by first | (rw [hji64] at H; exact H) | (simp only [hji64] at H ⊢; exact H)
                  (try rw [hji64] at A62)
                  by_cases c65 : 0 ≤ (ji64)
                  ·rw [if_pos c65] at H
                   have c65b0 := eq_true c65
                   have c65b1 : decide (0 ≤ (ji64)) = true := decide_eq_true c65
                   clear c65
                   obtain ⟨ji66, hji66⟩ : ∃ j_ : Int, (shl .u32 1 (ji64)) = j_ := ⟨_, rfl⟩
                   replace H : (imprimaturlaw07_EnterMemory.l2 k5 t115 t117 t120 t123 x58_1 (Go.bits .or .u32 x20_5 (Go.bits .and .u32 t115 (ji66))) (t101.length : Int) x58_1 (t101.length : Int) (wrap64 (x101_5 + 1)) t101 t104) = some r := by first | (rw [hji66] at H; exact H) | (simp only [hji66] at H ⊢; exact H)
                   (try rw [hji66] at A62)
                   have hji66_ : (IntKind.u32.wrap (1 * 2 ^ min (ji64).toNat 32)) = ji66 := hji66
                   have hji66z : (ji64) ≤ 32 → (IntKind.u32.wrap (1 * 2 ^ (ji64).toNat)) = ji66 := shl_small hji66
                   have hji66u : (IntKind.u32.wrap (2 ^ min (ji64).toNat 32)) = ji66 := by have h_ := hji66_; rw [Int.one_mul] at h_; exact h_
                   have hji66v : (ji64) ≤ 32 → (IntKind.u32.wrap (2 ^ (ji64).toNat)) = ji66 := fun hle_ => by have h_ := hji66z hle_; rw [Int.one_mul] at h_; exact h_
                   have H' := Aside0.mk H
                   clear H
                   have hnb67 := NB113_114.out
                   have hnc67 := NB114_113.out
                   have hcz68_0 : wr.cell? ⟨gb113, 0, none⟩ = some (.slice Ao15 t101.length co15) := (blk_cell BK113.out 0).trans rfl
                   have hcz68_1 : wr.cell? ⟨gb113, 1, none⟩ = some (.slice Ao18 t104.length co18) := (blk_cell BK113.out 1).trans rfl
                   have hfz68_0 := blk_frozen BK113.out 0
                   have hfz68_1 := blk_frozen BK113.out 1
                   go_wp2_with (first | (go_at_call 27; (with_reducible refine (shape_Under.calls k5 _ _ t101 _ _ t104 x101_5 x58_1 true _ ?side1 ?side2 ?side3 ?side4 A62.out).mono ?_); (case side1 => repeat (first | exact (Kd.R_reads' HO_114000.out).2.2 | (with_reducible refine Kd.C_alloc ?_ _) | (with_reducible refine Kd.C_drewN ?_ _) | (with_reducible refine Kd.C_drew ?_))); (case side2 => exact (Kd.R_reads' HO_114000.out).2.1); (case side3 => repeat (first | exact (Kd.R_reads' HO_114001.out).2.2 | (with_reducible refine Kd.C_alloc ?_ _) | (with_reducible refine Kd.C_drewN ?_ _) | (with_reducible refine Kd.C_drew ?_))); (case side4 => exact (Kd.R_reads' HO_114001.out).2.1); rintro e w69 ⟨rfl, hb⟩; have n0_ := Aside0.mk (Kd.R_below (by (with_reducible repeat (first | apply Kd.R_alloc | apply Kd.R_drewN | apply Kd.R_drew)); exact HO_12.out) hb); have n1_ := Aside0.mk (Kd.R_below (by (with_reducible repeat (first | apply Kd.R_alloc | apply Kd.R_drewN | apply Kd.R_drew)); exact HO_13.out) hb); have n2_ := Aside0.mk (Kd.R_below (by (with_reducible repeat (first | apply Kd.R_alloc | apply Kd.R_drewN | apply Kd.R_drew)); exact HO_14.out) hb); have n3_ := Aside0.mk (Kd.R_below (by (with_reducible repeat (first | apply Kd.R_alloc | apply Kd.R_drewN | apply Kd.R_drew)); exact HO_114000.out) hb); have n4_ := Aside0.mk (Kd.R_below (by (with_reducible repeat (first | apply Kd.R_alloc | apply Kd.R_drewN | apply Kd.R_drew)); exact HO_114001.out) hb); have n5_ := Aside0.mk (Kd.R_below (by (with_reducible repeat (first | apply Kd.R_alloc | apply Kd.R_drewN | apply Kd.R_drew)); exact HO_115000.out) hb); have n6_ := Aside0.mk (Kd.R_below (by (with_reducible repeat (first | apply Kd.R_alloc | apply Kd.R_drewN | apply Kd.R_drew)); exact HO_115001.out) hb); have n7_ := Aside0.mk (blk_below (g := gb113) (o := .cells #[.slice Ao15 t101.length co15, .slice Ao18 t104.length co18] 24 (0, 0)) (by (with_reducible repeat (first | refine blk_drewN ?_ _ | refine blk_drew ?_ | refine blk_alloc ?_ _)); exact BK113.out) hb); have n8_ := Aside0.mk (blk_below (g := gb114) (o := .cells #[.slice Ao19 t107.length co19, .slice Ao21 t110.length co21] 25 (0, 0)) (by (with_reducible repeat (first | refine blk_drewN ?_ _ | refine blk_drew ?_ | refine blk_alloc ?_ _)); exact BK114.out) hb); have n9_ := Aside0.mk (below_step (by repeat (first | (with_reducible first | exact HB.out | apply below_alloc | apply pw_below_drewN | apply below_drew1 | refine below_set ?_ GE113.out | refine below_set ?_ GE114.out) | exact HB.out)) hb); clear HO_12; clear HO_13; clear HO_14; clear HO_114000; clear HO_114001; clear HO_115000; clear HO_115001; clear BK113; clear BK114; clear HB; have HO_12 := n0_; have HO_13 := n1_; have HO_14 := n2_; have HO_114000 := n3_; have HO_114001 := n4_; have HO_115000 := n5_; have HO_115001 := n6_; have BK113 := n7_; have BK114 := n8_; have HB := n9_; clear n0_ n1_ n2_ n3_ n4_ n5_ n6_ n7_ n8_ n9_; (try clear hb); (try clear hb2); (try clear hk); (try clear hi)))
                   go_roundg k5
                   case measure => have := HK1.out; have := HK2.out; have := HJ47.out; have := HJ50.out; have := HK5.out; omega
                   case rel => exact ⟨(Go.bits .or .u32 x20_5 (Go.bits .and .u32 t115 (ji66))), (wrap64 (x101_5 + 1)), (by first | rfl | (simp; done) | (simp only [← hji66] <;> (first | rfl | simp)) | (simp [*]; done)), (by first | rfl | (simp; done) | (simp [*]; done)), (by first | exact H' | exact ⟨by simp only [hji64, hji66]; exact H'.out⟩), ⟨by have := HK1.out; have := HK2.out; have := HJ47.out; have := HJ50.out; have := HK5.out; omega⟩, ⟨by (with_reducible repeat (first | apply Kd.R_alloc | apply Kd.R_drewN | apply Kd.R_drew)); exact HO_12.out⟩, ⟨by (with_reducible repeat (first | apply Kd.R_alloc | apply Kd.R_drewN | apply Kd.R_drew)); exact HO_13.out⟩, ⟨by (with_reducible repeat (first | apply Kd.R_alloc | apply Kd.R_drewN | apply Kd.R_drew)); exact HO_14.out⟩, ⟨by (with_reducible repeat (first | apply Kd.R_alloc | apply Kd.R_drewN | apply Kd.R_drew)); exact HO_114000.out⟩, ⟨by (with_reducible repeat (first | apply Kd.R_alloc | apply Kd.R_drewN | apply Kd.R_drew)); exact HO_114001.out⟩, ⟨by (with_reducible repeat (first | apply Kd.R_alloc | apply Kd.R_drewN | apply Kd.R_drew)); exact HO_115000.out⟩, ⟨by (with_reducible repeat (first | apply Kd.R_alloc | apply Kd.R_drewN | apply Kd.R_drew)); exact HO_115001.out⟩, ⟨by (with_reducible repeat (first | refine blk_drewN ?_ _ | refine blk_drew ?_ | refine blk_alloc ?_ _)); exact BK113.out⟩, ⟨by (with_reducible repeat (first | refine blk_drewN ?_ _ | refine blk_drew ?_ | refine blk_alloc ?_ _)); exact BK114.out⟩, ⟨by repeat (first | (with_reducible first | exact HB.out | apply below_alloc | apply pw_below_drewN | apply below_drew1 | refine below_set ?_ GE113.out | refine below_set ?_ GE114.out) | exact HB.out)⟩⟩
                  ·rw [if_neg c65] at H
                   exact absurd H (by simp)
                 ·replace c63 := Bool.eq_false_iff.mpr c63
                  subst c63
                  have H1 : (imprimaturlaw07_EnterMemory.l2 k5 t115 t117 t120 t123 x58_1 x20_5 (t101.length : Int) x58_1 (t101.length : Int) (wrap64 (x101_5 + 1)) t101 t104) = some r := by rw [if_neg (show ¬ (false = true) by decide)] at H; exact H
                  clear H
                  have H := H1
                  clear H1
                  have H' := Aside0.mk H
                  clear H
                  have hnb70 := NB113_114.out
                  have hnc70 := NB114_113.out
                  have hcz71_0 : wr.cell? ⟨gb113, 0, none⟩ = some (.slice Ao15 t101.length co15) := (blk_cell BK113.out 0).trans rfl
                  have hcz71_1 : wr.cell? ⟨gb113, 1, none⟩ = some (.slice Ao18 t104.length co18) := (blk_cell BK113.out 1).trans rfl
                  have hfz71_0 := blk_frozen BK113.out 0
                  have hfz71_1 := blk_frozen BK113.out 1
                  go_wp2_with (first | (go_at_call 27; (with_reducible refine (shape_Under.calls k5 _ _ t101 _ _ t104 x101_5 x58_1 false _ ?side1 ?side2 ?side3 ?side4 A62.out).mono ?_); (case side1 => repeat (first | exact (Kd.R_reads' HO_114000.out).2.2 | (with_reducible refine Kd.C_alloc ?_ _) | (with_reducible refine Kd.C_drewN ?_ _) | (with_reducible refine Kd.C_drew ?_))); (case side2 => exact (Kd.R_reads' HO_114000.out).2.1); (case side3 => repeat (first | exact (Kd.R_reads' HO_114001.out).2.2 | (with_reducible refine Kd.C_alloc ?_ _) | (with_reducible refine Kd.C_drewN ?_ _) | (with_reducible refine Kd.C_drew ?_))); (case side4 => exact (Kd.R_reads' HO_114001.out).2.1); rintro e w72 ⟨rfl, hb⟩; have n0_ := Aside0.mk (Kd.R_below (by (with_reducible repeat (first | apply Kd.R_alloc | apply Kd.R_drewN | apply Kd.R_drew)); exact HO_12.out) hb); have n1_ := Aside0.mk (Kd.R_below (by (with_reducible repeat (first | apply Kd.R_alloc | apply Kd.R_drewN | apply Kd.R_drew)); exact HO_13.out) hb); have n2_ := Aside0.mk (Kd.R_below (by (with_reducible repeat (first | apply Kd.R_alloc | apply Kd.R_drewN | apply Kd.R_drew)); exact HO_14.out) hb); have n3_ := Aside0.mk (Kd.R_below (by (with_reducible repeat (first | apply Kd.R_alloc | apply Kd.R_drewN | apply Kd.R_drew)); exact HO_114000.out) hb); have n4_ := Aside0.mk (Kd.R_below (by (with_reducible repeat (first | apply Kd.R_alloc | apply Kd.R_drewN | apply Kd.R_drew)); exact HO_114001.out) hb); have n5_ := Aside0.mk (Kd.R_below (by (with_reducible repeat (first | apply Kd.R_alloc | apply Kd.R_drewN | apply Kd.R_drew)); exact HO_115000.out) hb); have n6_ := Aside0.mk (Kd.R_below (by (with_reducible repeat (first | apply Kd.R_alloc | apply Kd.R_drewN | apply Kd.R_drew)); exact HO_115001.out) hb); have n7_ := Aside0.mk (blk_below (g := gb113) (o := .cells #[.slice Ao15 t101.length co15, .slice Ao18 t104.length co18] 24 (0, 0)) (by (with_reducible repeat (first | refine blk_drewN ?_ _ | refine blk_drew ?_ | refine blk_alloc ?_ _)); exact BK113.out) hb); have n8_ := Aside0.mk (blk_below (g := gb114) (o := .cells #[.slice Ao19 t107.length co19, .slice Ao21 t110.length co21] 25 (0, 0)) (by (with_reducible repeat (first | refine blk_drewN ?_ _ | refine blk_drew ?_ | refine blk_alloc ?_ _)); exact BK114.out) hb); have n9_ := Aside0.mk (below_step (by repeat (first | (with_reducible first | exact HB.out | apply below_alloc | apply pw_below_drewN | apply below_drew1 | refine below_set ?_ GE113.out | refine below_set ?_ GE114.out) | exact HB.out)) hb); clear HO_12; clear HO_13; clear HO_14; clear HO_114000; clear HO_114001; clear HO_115000; clear HO_115001; clear BK113; clear BK114; clear HB; have HO_12 := n0_; have HO_13 := n1_; have HO_14 := n2_; have HO_114000 := n3_; have HO_114001 := n4_; have HO_115000 := n5_; have HO_115001 := n6_; have BK113 := n7_; have BK114 := n8_; have HB := n9_; clear n0_ n1_ n2_ n3_ n4_ n5_ n6_ n7_ n8_ n9_; (try clear hb); (try clear hb2); (try clear hk); (try clear hi)))
                  go_roundg k5
                  case measure => have := HK1.out; have := HK2.out; have := HJ47.out; have := HJ50.out; have := HK5.out; omega
                  case rel => exact ⟨(x20_5), (wrap64 (x101_5 + 1)), (by first | rfl | (simp; done) | (simp [*]; done)), (by first | rfl | (simp; done) | (simp [*]; done)), H', ⟨by have := HK1.out; have := HK2.out; have := HJ47.out; have := HJ50.out; have := HK5.out; omega⟩, ⟨by (with_reducible repeat (first | apply Kd.R_alloc | apply Kd.R_drewN | apply Kd.R_drew)); exact HO_12.out⟩, ⟨by (with_reducible repeat (first | apply Kd.R_alloc | apply Kd.R_drewN | apply Kd.R_drew)); exact HO_13.out⟩, ⟨by (with_reducible repeat (first | apply Kd.R_alloc | apply Kd.R_drewN | apply Kd.R_drew)); exact HO_14.out⟩, ⟨by (with_reducible repeat (first | apply Kd.R_alloc | apply Kd.R_drewN | apply Kd.R_drew)); exact HO_114000.out⟩, ⟨by (with_reducible repeat (first | apply Kd.R_alloc | apply Kd.R_drewN | apply Kd.R_drew)); exact HO_114001.out⟩, ⟨by (with_reducible repeat (first | apply Kd.R_alloc | apply Kd.R_drewN | apply Kd.R_drew)); exact HO_115000.out⟩, ⟨by (with_reducible repeat (first | apply Kd.R_alloc | apply Kd.R_drewN | apply Kd.R_drew)); exact HO_115001.out⟩, ⟨by (with_reducible repeat (first | refine blk_drewN ?_ _ | refine blk_drew ?_ | refine blk_alloc ?_ _)); exact BK113.out⟩, ⟨by (with_reducible repeat (first | refine blk_drewN ?_ _ | refine blk_drew ?_ | refine blk_alloc ?_ _)); exact BK114.out⟩, ⟨by repeat (first | (with_reducible first | exact HB.out | apply below_alloc | apply pw_below_drewN | apply below_drew1 | refine below_set ?_ GE113.out | refine below_set ?_ GE114.out) | exact HB.out)⟩⟩
               ·rw [if_neg c60] at H
                have c60b0 : decide (x101_5 < (t101.length : Int)) = false := decide_eq_false c60
                clear c60
                by_cases c73 : 0 ≤ x58_1
                ·rw [if_pos c73] at H
                 have c73b0 : decide (0 ≤ x58_1) = true := decide_eq_true c73
                 clear c73
                 by_cases c74 : x58_1 < (t123.length : Int)
                 ·rw [if_pos c74] at H
                  have c74b0 : decide (x58_1 < (t123.length : Int)) = true := decide_eq_true c74
                  clear c74
                  by_cases c75 : (rd t123 x58_1) = x20_5
                  ·rw [if_pos c75] at H
                   have c75b0 : ((rd t123 x58_1) == x20_5) = true := beq_iff_eq.mpr c75
                   have c75b1 : ((rd t123 x58_1) != x20_5) = false := bne_eq_false_iff_eq.mpr c75
                   clear c75
                   have H' := Aside0.mk H
                   clear H
                   have p135 : 0 ≤ (x58_1 : Int) := of_decide_eq_true (by first | (with_reducible assumption) | assumption)
                   have q135 : x58_1 < (t123.length : Int) := of_decide_eq_true (by first | (with_reducible assumption) | assumption)
                   obtain ⟨ad135, e135, hx135_0⟩ := Kd.at_int (Kd.R_reads' HO_14.out).2.2 x58_1 p135 q135
                   cases e135
                   replace p135 := eq_true p135
                   replace q135 := eq_true q135
                   go_wp2
                   go_roundg k5
                   case measure => have := HK1.out; have := HK2.out; have := HJ47.out; have := HJ50.out; have := HK5.out; omega
                   case rel => exact ⟨(wrap64 (x58_1 + 1)), (by first | rfl | (simp; done) | (simp [*]; done)), H', ⟨by have := HK1.out; have := HK2.out; have := HJ47.out; have := HJ50.out; have := HK5.out; omega⟩, ⟨by (with_reducible repeat (first | apply Kd.R_alloc | apply Kd.R_drewN | apply Kd.R_drew)); exact HO_12.out⟩, ⟨by (with_reducible repeat (first | apply Kd.R_alloc | apply Kd.R_drewN | apply Kd.R_drew)); exact HO_13.out⟩, ⟨by (with_reducible repeat (first | apply Kd.R_alloc | apply Kd.R_drewN | apply Kd.R_drew)); exact HO_14.out⟩, ⟨by (with_reducible repeat (first | apply Kd.R_alloc | apply Kd.R_drewN | apply Kd.R_drew)); exact HO_114000.out⟩, ⟨by (with_reducible repeat (first | apply Kd.R_alloc | apply Kd.R_drewN | apply Kd.R_drew)); exact HO_114001.out⟩, ⟨by (with_reducible repeat (first | apply Kd.R_alloc | apply Kd.R_drewN | apply Kd.R_drew)); exact HO_115000.out⟩, ⟨by (with_reducible repeat (first | apply Kd.R_alloc | apply Kd.R_drewN | apply Kd.R_drew)); exact HO_115001.out⟩, ⟨by (with_reducible repeat (first | refine blk_drewN ?_ _ | refine blk_drew ?_ | refine blk_alloc ?_ _)); exact BK113.out⟩, ⟨by (with_reducible repeat (first | refine blk_drewN ?_ _ | refine blk_drew ?_ | refine blk_alloc ?_ _)); exact BK114.out⟩, ⟨by repeat (first | (with_reducible first | exact HB.out | apply below_alloc | apply pw_below_drewN | apply below_drew1 | refine below_set ?_ GE113.out | refine below_set ?_ GE114.out) | exact HB.out)⟩⟩
                  ·rw [if_neg c75] at H
                   have c75b0 : ((rd t123 x58_1) == x20_5) = false := beq_eq_false_iff_ne.mpr c75
                   have c75b1 : ((rd t123 x58_1) != x20_5) = true := bne_iff_ne.mpr c75
                   obtain rfl := Option.some.inj H
                   have p135 : 0 ≤ (x58_1 : Int) := of_decide_eq_true (by first | (with_reducible assumption) | assumption)
                   have q135 : x58_1 < (t123.length : Int) := of_decide_eq_true (by first | (with_reducible assumption) | assumption)
                   obtain ⟨ad135, e135, hx135_0⟩ := Kd.at_int (Kd.R_reads' HO_14.out).2.2 x58_1 p135 q135
                   cases e135
                   replace p135 := eq_true p135
                   replace q135 := eq_true q135
                   go_wp2
                   go_ret
                   exact ⟨by first | rfl | (simp [errW_none, errW_some] <;> rfl) | (simp [*, errW_none, errW_some] <;> rfl), by repeat (first | (with_reducible first | exact HB.out | apply below_alloc | apply pw_below_drewN | apply below_drew1 | refine below_set ?_ GE113.out | refine below_set ?_ GE114.out) | exact HB.out)⟩
                 ·rw [if_neg c74] at H
                  exact absurd H (by simp)
                ·rw [if_neg c73] at H
                 exact absurd H (by simp)
            ·replace c57 := Bool.eq_false_iff.mpr c57
             subst c57
             have H1 : (if 0 ≤ x58_1 then (if x58_1 < (t123.length : Int) then (if (rd t123 x58_1) = x19_47 then (imprimaturlaw07_EnterMemory.l0 kj50 t115 t117 t120 t123 (t101.length : Int) (wrap64 (x58_1 + 1)) t101 t104) else (some false)) else (none)) else (none)) = some r := by rw [if_neg (show ¬ (false = true) by decide)] at H; exact H
             clear H
             have H := H1
             clear H1
             by_cases c76 : 0 ≤ x58_1
             ·rw [if_pos c76] at H
              have c76b0 : decide (0 ≤ x58_1) = true := decide_eq_true c76
              clear c76
              by_cases c77 : x58_1 < (t123.length : Int)
              ·rw [if_pos c77] at H
               have c77b0 : decide (x58_1 < (t123.length : Int)) = true := decide_eq_true c77
               clear c77
               by_cases c78 : (rd t123 x58_1) = x19_47
               ·rw [if_pos c78] at H
                have c78b0 : ((rd t123 x58_1) == x19_47) = true := beq_iff_eq.mpr c78
                have c78b1 : ((rd t123 x58_1) != x19_47) = false := bne_eq_false_iff_eq.mpr c78
                clear c78
                have H' := Aside0.mk H
                clear H
                have p136 : 0 ≤ (x58_1 : Int) := of_decide_eq_true (by first | (with_reducible assumption) | assumption)
                have q136 : x58_1 < (t123.length : Int) := of_decide_eq_true (by first | (with_reducible assumption) | assumption)
                obtain ⟨ad136, e136, hx136_0⟩ := Kd.at_int (Kd.R_reads' HO_14.out).2.2 x58_1 p136 q136
                cases e136
                replace p136 := eq_true p136
                replace q136 := eq_true q136
                go_wp2
                go_roundg kj50
                case measure => have := HK1.out; have := HK2.out; have := HJ47.out; have := HJ50.out; omega
                case rel => exact ⟨(wrap64 (x58_1 + 1)), (by first | rfl | (simp; done) | (simp [*]; done)), H', ⟨by have := HK1.out; have := HK2.out; have := HJ47.out; have := HJ50.out; omega⟩, ⟨by (with_reducible repeat (first | apply Kd.R_alloc | apply Kd.R_drewN | apply Kd.R_drew)); exact HO_12.out⟩, ⟨by (with_reducible repeat (first | apply Kd.R_alloc | apply Kd.R_drewN | apply Kd.R_drew)); exact HO_13.out⟩, ⟨by (with_reducible repeat (first | apply Kd.R_alloc | apply Kd.R_drewN | apply Kd.R_drew)); exact HO_14.out⟩, ⟨by (with_reducible repeat (first | apply Kd.R_alloc | apply Kd.R_drewN | apply Kd.R_drew)); exact HO_114000.out⟩, ⟨by (with_reducible repeat (first | apply Kd.R_alloc | apply Kd.R_drewN | apply Kd.R_drew)); exact HO_114001.out⟩, ⟨by (with_reducible repeat (first | apply Kd.R_alloc | apply Kd.R_drewN | apply Kd.R_drew)); exact HO_115000.out⟩, ⟨by (with_reducible repeat (first | apply Kd.R_alloc | apply Kd.R_drewN | apply Kd.R_drew)); exact HO_115001.out⟩, ⟨by (with_reducible repeat (first | refine blk_drewN ?_ _ | refine blk_drew ?_ | refine blk_alloc ?_ _)); exact BK113.out⟩, ⟨by (with_reducible repeat (first | refine blk_drewN ?_ _ | refine blk_drew ?_ | refine blk_alloc ?_ _)); exact BK114.out⟩, ⟨by repeat (first | (with_reducible first | exact HB.out | apply below_alloc | apply pw_below_drewN | apply below_drew1 | refine below_set ?_ GE113.out | refine below_set ?_ GE114.out) | exact HB.out)⟩⟩
               ·rw [if_neg c78] at H
                have c78b0 : ((rd t123 x58_1) == x19_47) = false := beq_eq_false_iff_ne.mpr c78
                have c78b1 : ((rd t123 x58_1) != x19_47) = true := bne_iff_ne.mpr c78
                obtain rfl := Option.some.inj H
                have p136 : 0 ≤ (x58_1 : Int) := of_decide_eq_true (by first | (with_reducible assumption) | assumption)
                have q136 : x58_1 < (t123.length : Int) := of_decide_eq_true (by first | (with_reducible assumption) | assumption)
                obtain ⟨ad136, e136, hx136_0⟩ := Kd.at_int (Kd.R_reads' HO_14.out).2.2 x58_1 p136 q136
                cases e136
                replace p136 := eq_true p136
                replace q136 := eq_true q136
                go_wp2
                go_ret
                exact ⟨by first | rfl | (simp [errW_none, errW_some] <;> rfl) | (simp [*, errW_none, errW_some] <;> rfl), by repeat (first | (with_reducible first | exact HB.out | apply below_alloc | apply pw_below_drewN | apply below_drew1 | refine below_set ?_ GE113.out | refine below_set ?_ GE114.out) | exact HB.out)⟩
              ·rw [if_neg c77] at H
               exact absurd H (by simp)
             ·rw [if_neg c76] at H
              exact absurd H (by simp)
    ·rw [if_neg c34] at H
     have c34b0 : decide (x58_1 < (t101.length : Int)) = false := decide_eq_false c34
     clear c34
     replace H := Option.bind_eq_some_iff.mp H
     obtain ⟨t126, A790, H⟩ := H
     replace H : (some t126) = some r := H
     have A79 := Aside0.mk A790
     clear A790
     obtain rfl := Option.some.inj H
     go_wp2_with (first | ((with_reducible refine gate_callee (f := 28) rfl ?_); refine goesL_ (some 128) rfl rfl Try.func28 (by kernel_rfl) rfl #[] rfl (by (try simp only [List.map_toArray, List.map_cons, List.map_nil]); first | done | rfl | (simp only [List.length_drop, List.length_take]; rfl)) ?_; (with_reducible refine (imprimaturlaw07_wakes.calls k1  t126 _ A79.out).mono ?_); rintro e w80 ⟨rfl, hb⟩; refine ⟨_, rfl, ?_⟩; have n0_ := Aside0.mk (Kd.R_below (by (with_reducible repeat (first | apply Kd.R_alloc | apply Kd.R_drewN | apply Kd.R_drew)); exact HO_12.out) hb); have n1_ := Aside0.mk (Kd.R_below (by (with_reducible repeat (first | apply Kd.R_alloc | apply Kd.R_drewN | apply Kd.R_drew)); exact HO_13.out) hb); have n2_ := Aside0.mk (Kd.R_below (by (with_reducible repeat (first | apply Kd.R_alloc | apply Kd.R_drewN | apply Kd.R_drew)); exact HO_14.out) hb); have n3_ := Aside0.mk (Kd.R_below (by (with_reducible repeat (first | apply Kd.R_alloc | apply Kd.R_drewN | apply Kd.R_drew)); exact HO_114000.out) hb); have n4_ := Aside0.mk (Kd.R_below (by (with_reducible repeat (first | apply Kd.R_alloc | apply Kd.R_drewN | apply Kd.R_drew)); exact HO_114001.out) hb); have n5_ := Aside0.mk (Kd.R_below (by (with_reducible repeat (first | apply Kd.R_alloc | apply Kd.R_drewN | apply Kd.R_drew)); exact HO_115000.out) hb); have n6_ := Aside0.mk (Kd.R_below (by (with_reducible repeat (first | apply Kd.R_alloc | apply Kd.R_drewN | apply Kd.R_drew)); exact HO_115001.out) hb); have n7_ := Aside0.mk (blk_below (g := gb113) (o := .cells #[.slice Ao15 t101.length co15, .slice Ao18 t104.length co18] 24 (0, 0)) (by (with_reducible repeat (first | refine blk_drewN ?_ _ | refine blk_drew ?_ | refine blk_alloc ?_ _)); exact BK113.out) hb); have n8_ := Aside0.mk (blk_below (g := gb114) (o := .cells #[.slice Ao19 t107.length co19, .slice Ao21 t110.length co21] 25 (0, 0)) (by (with_reducible repeat (first | refine blk_drewN ?_ _ | refine blk_drew ?_ | refine blk_alloc ?_ _)); exact BK114.out) hb); have n9_ := Aside0.mk (below_step (by repeat (first | (with_reducible first | exact HB.out | apply below_alloc | apply pw_below_drewN | apply below_drew1 | refine below_set ?_ GE113.out | refine below_set ?_ GE114.out) | exact HB.out)) hb); clear HO_12; clear HO_13; clear HO_14; clear HO_114000; clear HO_114001; clear HO_115000; clear HO_115001; clear BK113; clear BK114; clear HB; have HO_12 := n0_; have HO_13 := n1_; have HO_14 := n2_; have HO_114000 := n3_; have HO_114001 := n4_; have HO_115000 := n5_; have HO_115001 := n6_; have BK113 := n7_; have BK114 := n8_; have HB := n9_; clear n0_ n1_ n2_ n3_ n4_ n5_ n6_ n7_ n8_ n9_; (try clear hb); (try clear hb2); (try clear hk); (try clear hi)))
     go_ret
     exact ⟨by first | rfl | (simp [errW_none, errW_some] <;> rfl) | (simp [*, errW_none, errW_some] <;> rfl), by repeat (first | (with_reducible first | exact HB.out | apply below_alloc | apply pw_below_drewN | apply below_drew1 | refine below_set ?_ GE113.out | refine below_set ?_ GE114.out) | exact HB.out)⟩
 ·rw [if_neg c11] at H
  have c11b0 : ((t123.length : Int) == (t101.length : Int)) = false := beq_eq_false_iff_ne.mpr c11
  have c11b1 : ((t123.length : Int) != (t101.length : Int)) = true := bne_iff_ne.mpr c11
  have c11b2 : (t123.length == t101.length) = false := by first | simpa using c11 | (simp at c11 ⊢; omega)
  obtain rfl := Option.some.inj H
  go_enter Try.func7, Try.ntmps7
  go_wp2_with (first | ((with_reducible refine gate_callee (f := 13) rfl ?_); refine goesL_ (some 24) rfl rfl Try.func13 (by kernel_rfl) rfl #[.slice A0 l0.length c0] rfl (by (try simp only [List.map_toArray, List.map_cons, List.map_nil]); first | done | rfl | (simp only [List.length_drop, List.length_take]; rfl)) ?_; (with_reducible refine (imprimaturlaw06_Of.calls k _ _ l0 t101 t104 t107 t110 _ ?side1 ?side2 A5.out).mono ?_); (case side1 => repeat (first | exact HR0.out | (with_reducible refine Kd.C_alloc ?_ _) | (with_reducible refine Kd.C_drewN ?_ _) | (with_reducible refine Kd.C_drew ?_))); (case side2 => exact HC0.out); rintro e w81 ⟨v102, v105, v108, v111, rfl, ho0, ho1, ho2, ho3, hb⟩; refine ⟨_, rfl, ?_⟩; have n0_ := Aside0.mk (Kd.R_lower ho0 (below_size (by repeat (first | (with_reducible first | exact HB.out | apply below_alloc | apply pw_below_drewN | apply below_drew1) | exact HB.out)))); have n1_ := Aside0.mk (Kd.R_lower ho1 (below_size (by repeat (first | (with_reducible first | exact HB.out | apply below_alloc | apply pw_below_drewN | apply below_drew1) | exact HB.out)))); have n2_ := Aside0.mk (Kd.R_lower ho2 (below_size (by repeat (first | (with_reducible first | exact HB.out | apply below_alloc | apply pw_below_drewN | apply below_drew1) | exact HB.out)))); have n3_ := Aside0.mk (Kd.R_lower ho3 (below_size (by repeat (first | (with_reducible first | exact HB.out | apply below_alloc | apply pw_below_drewN | apply below_drew1) | exact HB.out)))); have n4_ := Aside0.mk (below_step (by repeat (first | (with_reducible first | exact HB.out | apply below_alloc | apply pw_below_drewN | apply below_drew1) | exact HB.out)) hb); clear HB; have HO103 := n0_; have HO106 := n1_; have HO109 := n2_; have HO112 := n3_; have HB := n4_; clear n0_ n1_ n2_ n3_ n4_; (try clear hb); (try clear hb2); (try clear hk); (try clear hi); (try clear ho0); (try clear ho1); (try clear ho2); (try clear ho3)) | ((with_reducible refine gate_dst (N := 9) rfl ?_); refine box_event ?hg (N := 9) ?hd (cs := #[.slice none 0 0, .slice none 0 0]) (t := 24) ?hr ?_; (case hd => rfl); (case hg => rfl); (case hr => first | (go_simp; done) | (go_simp; rfl)); intro gb113 hg w82 hbox hb; have n0_ := Aside0.mk (Kd.R_below (by (with_reducible repeat (first | apply Kd.R_alloc | apply Kd.R_drewN | apply Kd.R_drew)); exact HO103.out) hb); have n1_ := Aside0.mk (Kd.R_below (by (with_reducible repeat (first | apply Kd.R_alloc | apply Kd.R_drewN | apply Kd.R_drew)); exact HO106.out) hb); have n2_ := Aside0.mk (Kd.R_below (by (with_reducible repeat (first | apply Kd.R_alloc | apply Kd.R_drewN | apply Kd.R_drew)); exact HO109.out) hb); have n3_ := Aside0.mk (Kd.R_below (by (with_reducible repeat (first | apply Kd.R_alloc | apply Kd.R_drewN | apply Kd.R_drew)); exact HO112.out) hb); have n4_ := Aside0.mk (below_step (by repeat (first | (with_reducible first | exact HB.out | apply below_alloc | apply pw_below_drewN | apply below_drew1) | exact HB.out)) hb); have n5_ := Aside0.mk (hbox); have n6_ := Aside0.mk ((by rw [hg]; exact (below_size (by repeat (first | (with_reducible first | exact HB.out | apply below_alloc | apply pw_below_drewN | apply below_drew1) | exact HB.out))) : w.heap.size ≤ gb113)); have n7_ := Aside0.mk ((by rw [hg]; exact (below_size (by repeat (first | (with_reducible first | exact HB.out | apply below_alloc | apply pw_below_drewN | apply below_drew1) | exact HB.out))) : w.heap.size ≤ gb113)); clear HO103; clear HO106; clear HO109; clear HO112; clear HB; have HO103 := n0_; have HO106 := n1_; have HO109 := n2_; have HO112 := n3_; have HB := n4_; have BK113 := n5_; have GW113 := n6_; have GE113 := n7_; clear n0_ n1_ n2_ n3_ n4_ n5_ n6_ n7_; clear hb hbox hg) | ((with_reducible refine gate_dst (N := 10) rfl ?_); refine box_event ?hg (N := 10) ?hd (cs := #[.slice none 0 0, .slice none 0 0]) (t := 25) ?hr ?_; (case hd => rfl); (case hg => rfl); (case hr => first | (go_simp; done) | (go_simp; rfl)); intro gb114 hg w83 hbox hb; have n0_ := Aside0.mk (Kd.R_below (by (with_reducible repeat (first | apply Kd.R_alloc | apply Kd.R_drewN | apply Kd.R_drew)); exact HO103.out) hb); have n1_ := Aside0.mk (Kd.R_below (by (with_reducible repeat (first | apply Kd.R_alloc | apply Kd.R_drewN | apply Kd.R_drew)); exact HO106.out) hb); have n2_ := Aside0.mk (Kd.R_below (by (with_reducible repeat (first | apply Kd.R_alloc | apply Kd.R_drewN | apply Kd.R_drew)); exact HO109.out) hb); have n3_ := Aside0.mk (Kd.R_below (by (with_reducible repeat (first | apply Kd.R_alloc | apply Kd.R_drewN | apply Kd.R_drew)); exact HO112.out) hb); have n4_ := Aside0.mk (blk_below (g := gb113) (o := .cells #[.slice none 0 0, .slice none 0 0] 24 (0, 0)) (by (with_reducible repeat (first | refine blk_drewN ?_ _ | refine blk_drew ?_ | refine blk_alloc ?_ _)); exact BK113.out) hb); have n5_ := Aside0.mk (below_step (by repeat (first | (with_reducible first | exact HB.out | apply below_alloc | apply pw_below_drewN | apply below_drew1 | refine below_set ?_ GE113.out) | exact HB.out)) hb); have n6_ := Aside0.mk (hbox); have n7_ := Aside0.mk ((by rw [hg]; exact (below_size (by repeat (first | (with_reducible first | exact HB.out | apply below_alloc | apply pw_below_drewN | apply below_drew1 | refine below_set ?_ GE113.out) | exact HB.out))) : w.heap.size ≤ gb114)); have n8_ := Aside0.mk ((by rw [hg]; exact (below_size (by repeat (first | (with_reducible first | exact HB.out | apply below_alloc | apply pw_below_drewN | apply below_drew1 | refine below_set ?_ GE113.out) | exact HB.out))) : w.heap.size ≤ gb114)); have n9_ := Aside0.mk ((by rw [hg]; exact Nat.ne_of_lt (blk_lt (g := gb113) (o := .cells #[.slice none 0 0, .slice none 0 0] 24 (0, 0)) (by (with_reducible repeat (first | refine blk_drewN ?_ _ | refine blk_drew ?_ | refine blk_alloc ?_ _)); exact BK113.out)) : gb113 ≠ gb114)); have n10_ := Aside0.mk ((by rw [hg]; exact Nat.ne_of_gt (blk_lt (g := gb113) (o := .cells #[.slice none 0 0, .slice none 0 0] 24 (0, 0)) (by (with_reducible repeat (first | refine blk_drewN ?_ _ | refine blk_drew ?_ | refine blk_alloc ?_ _)); exact BK113.out)) : gb114 ≠ gb113)); clear HO103; clear HO106; clear HO109; clear HO112; clear BK113; clear HB; have HO103 := n0_; have HO106 := n1_; have HO109 := n2_; have HO112 := n3_; have BK113 := n4_; have HB := n5_; have BK114 := n6_; have GW114 := n7_; have GE114 := n8_; have NB113_114 := n9_; have NB114_113 := n10_; clear n0_ n1_ n2_ n3_ n4_ n5_ n6_ n7_ n8_ n9_ n10_; clear hb hbox hg; obtain ⟨Ao84, co84, eo84⟩ := Kd.R_slice HO103.out; subst eo84; have hnb85 := NB113_114.out; have hnc85 := NB114_113.out; have hcz86_0 : w83.cell? ⟨gb113, 0, none⟩ = some (.slice none 0 0) := (blk_cell BK113.out 0).trans rfl; have hcz86_1 : w83.cell? ⟨gb113, 1, none⟩ = some (.slice none 0 0) := (blk_cell BK113.out 1).trans rfl; have hfz86_0 := blk_frozen BK113.out 0; have hfz86_1 := blk_frozen BK113.out 1; obtain ⟨Ao87, co87, eo87⟩ := Kd.R_slice HO106.out; subst eo87; obtain ⟨Ao88, co88, eo88⟩ := Kd.R_slice HO109.out; subst eo88; have hcz89_0 : w83.cell? ⟨gb114, 0, none⟩ = some (.slice none 0 0) := (blk_cell BK114.out 0).trans rfl; have hcz89_1 : w83.cell? ⟨gb114, 1, none⟩ = some (.slice none 0 0) := (blk_cell BK114.out 1).trans rfl; have hfz89_0 := blk_frozen BK114.out 0; have hfz89_1 := blk_frozen BK114.out 1; obtain ⟨Ao90, co90, eo90⟩ := Kd.R_slice HO112.out; subst eo90) | ((with_reducible refine gate_callee (f := 18) rfl ?_); refine goesL_ (some 29) rfl rfl Try.func18 (by kernel_rfl) rfl #[.agg #[.slice Ao88 t107.length co88, .slice Ao90 t110.length co90], .slice A1 l1.length c1] rfl (by (try simp only [List.map_toArray, List.map_cons, List.map_nil]); first | done | rfl | (simp only [List.length_drop, List.length_take]; rfl)) ?_; (with_reducible refine (imprimaturlaw06_Config.calls k _ _ t107 _ _ t110 _ _ l1 t115 _ ?side1 ?side2 ?side3 ?side4 ?side5 ?side6 A6.out).mono ?_); (case side1 => refine (Kd.R_reads' (e := 3) (base := w.heap.size) (ok := fun k_ => (some k_ ≠ (.slice Ao84 t101.length co84 : Value).ownBlock ∧ (some k_ ≠ (.slice Ao87 t104.length co87 : Value).ownBlock ∧ some k_ ≠ (.slice Ao90 t110.length co90 : Value).ownBlock))) (n := t107.length) (c := co88) ?_).2.2; exact (by (with_reducible repeat (first | apply Kd.R_alloc | apply Kd.R_drewN | apply Kd.R_drew)); exact (Kd.R_mono (Kd.R_mono (Kd.R_far (p := ⟨gb114, 1, none⟩) (Kd.R_far (p := ⟨gb114, 0, none⟩) (Kd.R_far (p := ⟨gb113, 1, none⟩) (Kd.R_far (p := ⟨gb113, 0, none⟩) (Kd.R_types (Kd.R_types HO109.out BK113.out (by decide)) BK114.out (by decide)) (fun _ hk => hk.1.2) (.slice Ao84 t101.length co84)) (fun _ hk => hk.1.2) (.slice Ao87 t104.length co87)) (fun _ hk => hk.2) (.slice Ao88 t107.length co88)) (fun _ hk => hk.2) (.slice Ao90 t110.length co90)) (fun _ h_ => h_.1)) (fun _ h_ => h_.1)))); (case side2 => exact (Kd.R_reads' HO109.out).2.1); (case side3 => refine (Kd.R_reads' (e := 3) (base := w.heap.size) (ok := fun k_ => (some k_ ≠ (.slice Ao84 t101.length co84 : Value).ownBlock ∧ (some k_ ≠ (.slice Ao87 t104.length co87 : Value).ownBlock ∧ some k_ ≠ (.slice Ao88 t107.length co88 : Value).ownBlock))) (n := t110.length) (c := co90) ?_).2.2; exact (by (with_reducible repeat (first | apply Kd.R_alloc | apply Kd.R_drewN | apply Kd.R_drew)); exact (Kd.R_mono (Kd.R_mono (Kd.R_far (p := ⟨gb114, 1, none⟩) (Kd.R_far (p := ⟨gb114, 0, none⟩) (Kd.R_far (p := ⟨gb113, 1, none⟩) (Kd.R_far (p := ⟨gb113, 0, none⟩) (Kd.R_types (Kd.R_types HO112.out BK113.out (by decide)) BK114.out (by decide)) (fun _ hk => hk.1.2) (.slice Ao84 t101.length co84)) (fun _ hk => hk.1.2) (.slice Ao87 t104.length co87)) (fun _ hk => hk.2) (.slice Ao88 t107.length co88)) (fun _ hk => hk.2) (.slice Ao90 t110.length co90)) (fun _ h_ => h_.1)) (fun _ h_ => h_.1)))); (case side4 => exact (Kd.R_reads' HO112.out).2.1); (case side5 => exact Kd.C_below HR1.out (by repeat (first | (with_reducible first | exact HB.out | apply below_alloc | apply pw_below_drewN | apply below_drew1 | refine below_set ?_ GE113.out | refine below_set ?_ GE114.out) | exact HB.out))); (case side6 => exact HC1.out); rintro e w91 ⟨rfl, hb⟩; refine ⟨_, rfl, ?_⟩; have n0_ := Aside0.mk (Kd.R_below (by (with_reducible repeat (first | apply Kd.R_alloc | apply Kd.R_drewN | apply Kd.R_drew)); exact (Kd.R_mono (Kd.R_mono (Kd.R_far (p := ⟨gb114, 1, none⟩) (Kd.R_far (p := ⟨gb114, 0, none⟩) (Kd.R_far (p := ⟨gb113, 1, none⟩) (Kd.R_far (p := ⟨gb113, 0, none⟩) (Kd.R_types (Kd.R_types HO103.out BK113.out (by decide)) BK114.out (by decide)) (fun _ hk => hk.1.2) (.slice Ao84 t101.length co84)) (fun _ hk => hk.1.2) (.slice Ao87 t104.length co87)) (fun _ hk => hk.2) (.slice Ao88 t107.length co88)) (fun _ hk => hk.2) (.slice Ao90 t110.length co90)) (fun _ h_ => h_.1)) (fun _ h_ => h_.1))) hb); have n1_ := Aside0.mk (Kd.R_below (by (with_reducible repeat (first | apply Kd.R_alloc | apply Kd.R_drewN | apply Kd.R_drew)); exact (Kd.R_mono (Kd.R_mono (Kd.R_far (p := ⟨gb114, 1, none⟩) (Kd.R_far (p := ⟨gb114, 0, none⟩) (Kd.R_far (p := ⟨gb113, 1, none⟩) (Kd.R_far (p := ⟨gb113, 0, none⟩) (Kd.R_types (Kd.R_types HO106.out BK113.out (by decide)) BK114.out (by decide)) (fun _ hk => hk.1.2) (.slice Ao84 t101.length co84)) (fun _ hk => hk.1.2) (.slice Ao87 t104.length co87)) (fun _ hk => hk.2) (.slice Ao88 t107.length co88)) (fun _ hk => hk.2) (.slice Ao90 t110.length co90)) (fun _ h_ => h_.1)) (fun _ h_ => h_.1))) hb); have n2_ := Aside0.mk (Kd.R_below (by (with_reducible repeat (first | apply Kd.R_alloc | apply Kd.R_drewN | apply Kd.R_drew)); exact (Kd.R_mono (Kd.R_mono (Kd.R_far (p := ⟨gb114, 1, none⟩) (Kd.R_far (p := ⟨gb114, 0, none⟩) (Kd.R_far (p := ⟨gb113, 1, none⟩) (Kd.R_far (p := ⟨gb113, 0, none⟩) (Kd.R_types (Kd.R_types HO109.out BK113.out (by decide)) BK114.out (by decide)) (fun _ hk => hk.1.2) (.slice Ao84 t101.length co84)) (fun _ hk => hk.1.2) (.slice Ao87 t104.length co87)) (fun _ hk => hk.2) (.slice Ao88 t107.length co88)) (fun _ hk => hk.2) (.slice Ao90 t110.length co90)) (fun _ h_ => h_.1)) (fun _ h_ => h_.1))) hb); have n3_ := Aside0.mk (Kd.R_below (by (with_reducible repeat (first | apply Kd.R_alloc | apply Kd.R_drewN | apply Kd.R_drew)); exact (Kd.R_mono (Kd.R_mono (Kd.R_far (p := ⟨gb114, 1, none⟩) (Kd.R_far (p := ⟨gb114, 0, none⟩) (Kd.R_far (p := ⟨gb113, 1, none⟩) (Kd.R_far (p := ⟨gb113, 0, none⟩) (Kd.R_types (Kd.R_types HO112.out BK113.out (by decide)) BK114.out (by decide)) (fun _ hk => hk.1.2) (.slice Ao84 t101.length co84)) (fun _ hk => hk.1.2) (.slice Ao87 t104.length co87)) (fun _ hk => hk.2) (.slice Ao88 t107.length co88)) (fun _ hk => hk.2) (.slice Ao90 t110.length co90)) (fun _ h_ => h_.1)) (fun _ h_ => h_.1))) hb); have n4_ := Aside0.mk (blk_below (g := gb113) (o := .cells #[.slice Ao84 t101.length co84, .slice Ao87 t104.length co87] 24 (0, 0)) (by (with_reducible repeat (first | refine blk_drewN ?_ _ | refine blk_drew ?_ | refine blk_alloc ?_ _)); refine blk_far ?_ NB113_114.out _; (with_reducible repeat (first | refine blk_drewN ?_ _ | refine blk_drew ?_ | refine blk_alloc ?_ _)); refine blk_far ?_ NB113_114.out _; (with_reducible repeat (first | refine blk_drewN ?_ _ | refine blk_drew ?_ | refine blk_alloc ?_ _)); refine blk_put (cs := #[.slice Ao84 t101.length co84, .slice none 0 0]) ?_ 1 _ rfl; (with_reducible repeat (first | refine blk_drewN ?_ _ | refine blk_drew ?_ | refine blk_alloc ?_ _)); refine blk_put (cs := #[.slice none 0 0, .slice none 0 0]) ?_ 0 _ rfl; (with_reducible repeat (first | refine blk_drewN ?_ _ | refine blk_drew ?_ | refine blk_alloc ?_ _)); exact BK113.out) hb); have n5_ := Aside0.mk (blk_below (g := gb114) (o := .cells #[.slice Ao88 t107.length co88, .slice Ao90 t110.length co90] 25 (0, 0)) (by (with_reducible repeat (first | refine blk_drewN ?_ _ | refine blk_drew ?_ | refine blk_alloc ?_ _)); refine blk_put (cs := #[.slice Ao88 t107.length co88, .slice none 0 0]) ?_ 1 _ rfl; (with_reducible repeat (first | refine blk_drewN ?_ _ | refine blk_drew ?_ | refine blk_alloc ?_ _)); refine blk_put (cs := #[.slice none 0 0, .slice none 0 0]) ?_ 0 _ rfl; (with_reducible repeat (first | refine blk_drewN ?_ _ | refine blk_drew ?_ | refine blk_alloc ?_ _)); refine blk_far ?_ NB114_113.out _; (with_reducible repeat (first | refine blk_drewN ?_ _ | refine blk_drew ?_ | refine blk_alloc ?_ _)); refine blk_far ?_ NB114_113.out _; (with_reducible repeat (first | refine blk_drewN ?_ _ | refine blk_drew ?_ | refine blk_alloc ?_ _)); exact BK114.out) hb); have n6_ := Aside0.mk (below_step (by repeat (first | (with_reducible first | exact HB.out | apply below_alloc | apply pw_below_drewN | apply below_drew1 | refine below_set ?_ GE113.out | refine below_set ?_ GE114.out) | exact HB.out)) hb); clear HO103; clear HO106; clear HO109; clear HO112; clear BK113; clear BK114; clear HB; have HO103 := n0_; have HO106 := n1_; have HO109 := n2_; have HO112 := n3_; have BK113 := n4_; have BK114 := n5_; have HB := n6_; clear n0_ n1_ n2_ n3_ n4_ n5_ n6_; (try clear hb); (try clear hb2); (try clear hk); (try clear hi); have hcz92_0 : w91.cell? ⟨gb113, 0, none⟩ = some (.slice Ao84 t101.length co84) := (blk_cell BK113.out 0).trans rfl; have hcz92_1 : w91.cell? ⟨gb113, 1, none⟩ = some (.slice Ao87 t104.length co87) := (blk_cell BK113.out 1).trans rfl; have hfz92_0 := blk_frozen BK113.out 0; have hfz92_1 := blk_frozen BK113.out 1) | ((with_reducible refine gate_callee (f := 19) rfl ?_); refine goesL_ (some 35) rfl rfl Try.func19 (by kernel_rfl) rfl #[.int .i64 a2, .int .i64 (wrap64 ((t101.length : Int) + 1))] rfl (by (try simp only [List.map_toArray, List.map_cons, List.map_nil]); first | done | rfl | (simp only [List.length_drop, List.length_take]; rfl)) ?_; (with_reducible refine (imprimaturkeep_Within.calls a2 (wrap64 ((t101.length : Int) + 1)) t116 _ A7.out).mono ?_); rintro e w' ⟨rfl, ⟨nd, rfl⟩⟩; refine ⟨_, rfl, ?_⟩; have hcz93_0 : w91.cell? ⟨gb114, 0, none⟩ = some (.slice Ao88 t107.length co88) := (blk_cell BK114.out 0).trans rfl; have hcz93_1 : w91.cell? ⟨gb114, 1, none⟩ = some (.slice Ao90 t110.length co90) := (blk_cell BK114.out 1).trans rfl; have hfz93_0 := blk_frozen BK114.out 0; have hfz93_1 := blk_frozen BK114.out 1) | ((with_reducible refine gate_callee (f := 22) rfl ?_); refine goesL_ (some 39) rfl rfl Try.func22 (by kernel_rfl) rfl #[.agg #[.slice Ao88 t107.length co88, .slice Ao90 t110.length co90], .slice A3 l3.length c3] rfl (by (try simp only [List.map_toArray, List.map_cons, List.map_nil]); first | done | rfl | (simp only [List.length_drop, List.length_take]; rfl)) ?_; (with_reducible refine (imprimaturlaw07_Past.calls k _ _ t107 _ _ t110 _ _ l3 t117 _ ?side1 ?side2 ?side3 ?side4 ?side5 ?side6 A8.out).mono ?_); (case side1 => repeat (first | exact (Kd.R_reads' HO109.out).2.2 | (with_reducible refine Kd.C_alloc ?_ _) | (with_reducible refine Kd.C_drewN ?_ _) | (with_reducible refine Kd.C_drew ?_))); (case side2 => exact (Kd.R_reads' HO109.out).2.1); (case side3 => repeat (first | exact (Kd.R_reads' HO112.out).2.2 | (with_reducible refine Kd.C_alloc ?_ _) | (with_reducible refine Kd.C_drewN ?_ _) | (with_reducible refine Kd.C_drew ?_))); (case side4 => exact (Kd.R_reads' HO112.out).2.1); (case side5 => repeat (first | exact (Kd.C_below HR3.out (by repeat (first | (with_reducible first | exact HB.out | apply below_alloc | apply pw_below_drewN | apply below_drew1 | refine below_set ?_ GE113.out | refine below_set ?_ GE114.out) | exact HB.out))) | (with_reducible refine Kd.C_alloc ?_ _) | (with_reducible refine Kd.C_drewN ?_ _) | (with_reducible refine Kd.C_drew ?_))); (case side6 => exact HC3.out); rintro e w94 ⟨v118, rfl, ho0, hb⟩; refine ⟨_, rfl, ?_⟩; have n0_ := Aside0.mk (Kd.R_below (by (with_reducible repeat (first | apply Kd.R_alloc | apply Kd.R_drewN | apply Kd.R_drew)); exact HO103.out) hb); have n1_ := Aside0.mk (Kd.R_below (by (with_reducible repeat (first | apply Kd.R_alloc | apply Kd.R_drewN | apply Kd.R_drew)); exact HO106.out) hb); have n2_ := Aside0.mk (Kd.R_below (by (with_reducible repeat (first | apply Kd.R_alloc | apply Kd.R_drewN | apply Kd.R_drew)); exact HO109.out) hb); have n3_ := Aside0.mk (Kd.R_below (by (with_reducible repeat (first | apply Kd.R_alloc | apply Kd.R_drewN | apply Kd.R_drew)); exact HO112.out) hb); have n4_ := Aside0.mk (Kd.R_lower ho0 (below_size (by repeat (first | (with_reducible first | exact HB.out | apply below_alloc | apply pw_below_drewN | apply below_drew1 | refine below_set ?_ GE113.out | refine below_set ?_ GE114.out) | exact HB.out)))); have n5_ := Aside0.mk (blk_below (g := gb113) (o := .cells #[.slice Ao84 t101.length co84, .slice Ao87 t104.length co87] 24 (0, 0)) (by (with_reducible repeat (first | refine blk_drewN ?_ _ | refine blk_drew ?_ | refine blk_alloc ?_ _)); exact BK113.out) hb); have n6_ := Aside0.mk (blk_below (g := gb114) (o := .cells #[.slice Ao88 t107.length co88, .slice Ao90 t110.length co90] 25 (0, 0)) (by (with_reducible repeat (first | refine blk_drewN ?_ _ | refine blk_drew ?_ | refine blk_alloc ?_ _)); exact BK114.out) hb); have n7_ := Aside0.mk (below_step (by repeat (first | (with_reducible first | exact HB.out | apply below_alloc | apply pw_below_drewN | apply below_drew1 | refine below_set ?_ GE113.out | refine below_set ?_ GE114.out) | exact HB.out)) hb); clear HO103; clear HO106; clear HO109; clear HO112; clear BK113; clear BK114; clear HB; have HO103 := n0_; have HO106 := n1_; have HO109 := n2_; have HO112 := n3_; have HO119 := n4_; have BK113 := n5_; have BK114 := n6_; have HB := n7_; clear n0_ n1_ n2_ n3_ n4_ n5_ n6_ n7_; (try clear hb); (try clear hb2); (try clear hk); (try clear hi); (try clear ho0); have hcz95_0 : w94.cell? ⟨gb113, 0, none⟩ = some (.slice Ao84 t101.length co84) := (blk_cell BK113.out 0).trans rfl; have hcz95_1 : w94.cell? ⟨gb113, 1, none⟩ = some (.slice Ao87 t104.length co87) := (blk_cell BK113.out 1).trans rfl; have hfz95_0 := blk_frozen BK113.out 0; have hfz95_1 := blk_frozen BK113.out 1) | ((with_reducible refine gate_callee (f := 23) rfl ?_); refine goesL_ (some 43) rfl rfl Try.func23 (by kernel_rfl) rfl #[.agg #[.slice Ao84 t101.length co84, .slice Ao87 t104.length co87], .int .u32 t115, .int .i64 (wrap64 (t116 - 1))] rfl (by (try simp only [List.map_toArray, List.map_cons, List.map_nil]); first | done | rfl | (simp only [List.length_drop, List.length_take]; rfl)) ?_; (with_reducible refine (enter_Leave.calls k _ _ t101 _ _ t104 t115 (wrap64 (t116 - 1)) t120 _ ?side1 ?side2 ?side3 ?side4 A9.out).mono ?_); (case side1 => repeat (first | exact (Kd.R_reads' HO103.out).2.2 | (with_reducible refine Kd.C_alloc ?_ _) | (with_reducible refine Kd.C_drewN ?_ _) | (with_reducible refine Kd.C_drew ?_))); (case side2 => exact (Kd.R_reads' HO103.out).2.1); (case side3 => repeat (first | exact (Kd.R_reads' HO106.out).2.2 | (with_reducible refine Kd.C_alloc ?_ _) | (with_reducible refine Kd.C_drewN ?_ _) | (with_reducible refine Kd.C_drew ?_))); (case side4 => exact (Kd.R_reads' HO106.out).2.1); rintro e w96 ⟨v121, rfl, ho0, hb⟩; refine ⟨_, rfl, ?_⟩; have n0_ := Aside0.mk (Kd.R_elder' (by (with_reducible repeat (first | apply Kd.R_alloc | apply Kd.R_drewN | apply Kd.R_drew)); exact HO103.out) (Kd.R_base ho0) hb); have n1_ := Aside0.mk (Kd.R_elder' (by (with_reducible repeat (first | apply Kd.R_alloc | apply Kd.R_drewN | apply Kd.R_drew)); exact HO106.out) (Kd.R_base ho0) hb); have n2_ := Aside0.mk (Kd.R_elder' (by (with_reducible repeat (first | apply Kd.R_alloc | apply Kd.R_drewN | apply Kd.R_drew)); exact HO109.out) (Kd.R_base ho0) hb); have n3_ := Aside0.mk (Kd.R_elder' (by (with_reducible repeat (first | apply Kd.R_alloc | apply Kd.R_drewN | apply Kd.R_drew)); exact HO112.out) (Kd.R_base ho0) hb); have n4_ := Aside0.mk (Kd.R_below (by (with_reducible repeat (first | apply Kd.R_alloc | apply Kd.R_drewN | apply Kd.R_drew)); exact HO119.out) hb); have n5_ := Aside0.mk (Kd.R_lower (Kd.R_new' (Kd.R_new' (Kd.R_new' (Kd.R_new' ho0 (Kd.R_lt (by (with_reducible repeat (first | apply Kd.R_alloc | apply Kd.R_drewN | apply Kd.R_drew)); exact HO103.out))) (Kd.R_lt (by (with_reducible repeat (first | apply Kd.R_alloc | apply Kd.R_drewN | apply Kd.R_drew)); exact HO106.out))) (Kd.R_lt (by (with_reducible repeat (first | apply Kd.R_alloc | apply Kd.R_drewN | apply Kd.R_drew)); exact HO109.out))) (Kd.R_lt (by (with_reducible repeat (first | apply Kd.R_alloc | apply Kd.R_drewN | apply Kd.R_drew)); exact HO112.out))) (below_size (by repeat (first | (with_reducible first | exact HB.out | apply below_alloc | apply pw_below_drewN | apply below_drew1 | refine below_set ?_ GE113.out | refine below_set ?_ GE114.out) | exact HB.out)))); have n6_ := Aside0.mk (blk_below (g := gb113) (o := .cells #[.slice Ao84 t101.length co84, .slice Ao87 t104.length co87] 24 (0, 0)) (by (with_reducible repeat (first | refine blk_drewN ?_ _ | refine blk_drew ?_ | refine blk_alloc ?_ _)); exact BK113.out) hb); have n7_ := Aside0.mk (blk_below (g := gb114) (o := .cells #[.slice Ao88 t107.length co88, .slice Ao90 t110.length co90] 25 (0, 0)) (by (with_reducible repeat (first | refine blk_drewN ?_ _ | refine blk_drew ?_ | refine blk_alloc ?_ _)); exact BK114.out) hb); have n8_ := Aside0.mk (below_step (by repeat (first | (with_reducible first | exact HB.out | apply below_alloc | apply pw_below_drewN | apply below_drew1 | refine below_set ?_ GE113.out | refine below_set ?_ GE114.out) | exact HB.out)) hb); clear HO103; clear HO106; clear HO109; clear HO112; clear HO119; clear BK113; clear BK114; clear HB; have HO103 := n0_; have HO106 := n1_; have HO109 := n2_; have HO112 := n3_; have HO119 := n4_; have HO122 := n5_; have BK113 := n6_; have BK114 := n7_; have HB := n8_; clear n0_ n1_ n2_ n3_ n4_ n5_ n6_ n7_ n8_; (try clear hb); (try clear hb2); (try clear hk); (try clear hi); (try clear ho0); have hcz97_0 : w96.cell? ⟨gb113, 0, none⟩ = some (.slice Ao84 t101.length co84) := (blk_cell BK113.out 0).trans rfl; have hcz97_1 : w96.cell? ⟨gb113, 1, none⟩ = some (.slice Ao87 t104.length co87) := (blk_cell BK113.out 1).trans rfl; have hfz97_0 := blk_frozen BK113.out 0; have hfz97_1 := blk_frozen BK113.out 1; obtain ⟨Ao98, co98, eo98⟩ := Kd.R_slice HO122.out; subst eo98; obtain ⟨Ao99, co99, eo99⟩ := Kd.R_slice HO119.out; subst eo99) | ((with_reducible refine gate_callee (f := 24) rfl ?_); refine goesL_ (some 48) rfl rfl Try.func24 (by kernel_rfl) rfl #[.agg #[.slice Ao84 t101.length co84, .slice Ao87 t104.length co87], .int .u32 t115, .slice Ao98 t120.length co98, .slice Ao99 t117.length co99] rfl (by (try simp only [List.map_toArray, List.map_cons, List.map_nil]); first | done | rfl | (simp only [List.length_drop, List.length_take]; rfl)) ?_; (with_reducible refine (enter_Remember.calls k _ _ t101 _ _ t104 t115 _ _ t120 _ _ t117 t123 _ ?side1 ?side2 ?side3 ?side4 ?side5 ?side6 ?side7 ?side8 A10.out).mono ?_); (case side1 => repeat (first | exact (Kd.R_reads' HO103.out).2.2 | (with_reducible refine Kd.C_alloc ?_ _) | (with_reducible refine Kd.C_drewN ?_ _) | (with_reducible refine Kd.C_drew ?_))); (case side2 => exact (Kd.R_reads' HO103.out).2.1); (case side3 => repeat (first | exact (Kd.R_reads' HO106.out).2.2 | (with_reducible refine Kd.C_alloc ?_ _) | (with_reducible refine Kd.C_drewN ?_ _) | (with_reducible refine Kd.C_drew ?_))); (case side4 => exact (Kd.R_reads' HO106.out).2.1); (case side5 => repeat (first | exact (Kd.R_reads' HO122.out).2.2 | (with_reducible refine Kd.C_alloc ?_ _) | (with_reducible refine Kd.C_drewN ?_ _) | (with_reducible refine Kd.C_drew ?_))); (case side6 => exact (Kd.R_reads' HO122.out).2.1); (case side7 => repeat (first | exact (Kd.R_reads' HO119.out).2.2 | (with_reducible refine Kd.C_alloc ?_ _) | (with_reducible refine Kd.C_drewN ?_ _) | (with_reducible refine Kd.C_drew ?_))); (case side8 => exact (Kd.R_reads' HO119.out).2.1); rintro e w100 ⟨v124, rfl, ho0, hb⟩; refine ⟨_, rfl, ?_⟩; have n0_ := Aside0.mk (Kd.R_below (by (with_reducible repeat (first | apply Kd.R_alloc | apply Kd.R_drewN | apply Kd.R_drew)); exact HO103.out) hb); have n1_ := Aside0.mk (Kd.R_below (by (with_reducible repeat (first | apply Kd.R_alloc | apply Kd.R_drewN | apply Kd.R_drew)); exact HO106.out) hb); have n2_ := Aside0.mk (Kd.R_below (by (with_reducible repeat (first | apply Kd.R_alloc | apply Kd.R_drewN | apply Kd.R_drew)); exact HO109.out) hb); have n3_ := Aside0.mk (Kd.R_below (by (with_reducible repeat (first | apply Kd.R_alloc | apply Kd.R_drewN | apply Kd.R_drew)); exact HO112.out) hb); have n4_ := Aside0.mk (Kd.R_elder' (by (with_reducible repeat (first | apply Kd.R_alloc | apply Kd.R_drewN | apply Kd.R_drew)); exact HO119.out) (Kd.R_base ho0) hb); have n5_ := Aside0.mk (Kd.R_below (by (with_reducible repeat (first | apply Kd.R_alloc | apply Kd.R_drewN | apply Kd.R_drew)); exact HO122.out) hb); have n6_ := Aside0.mk (Kd.R_lower (Kd.R_new' ho0 (Kd.R_lt (by (with_reducible repeat (first | apply Kd.R_alloc | apply Kd.R_drewN | apply Kd.R_drew)); exact HO119.out))) (below_size (by repeat (first | (with_reducible first | exact HB.out | apply below_alloc | apply pw_below_drewN | apply below_drew1 | refine below_set ?_ GE113.out | refine below_set ?_ GE114.out) | exact HB.out)))); have n7_ := Aside0.mk (blk_below (g := gb113) (o := .cells #[.slice Ao84 t101.length co84, .slice Ao87 t104.length co87] 24 (0, 0)) (by (with_reducible repeat (first | refine blk_drewN ?_ _ | refine blk_drew ?_ | refine blk_alloc ?_ _)); exact BK113.out) hb); have n8_ := Aside0.mk (blk_below (g := gb114) (o := .cells #[.slice Ao88 t107.length co88, .slice Ao90 t110.length co90] 25 (0, 0)) (by (with_reducible repeat (first | refine blk_drewN ?_ _ | refine blk_drew ?_ | refine blk_alloc ?_ _)); exact BK114.out) hb); have n9_ := Aside0.mk (below_step (by repeat (first | (with_reducible first | exact HB.out | apply below_alloc | apply pw_below_drewN | apply below_drew1 | refine below_set ?_ GE113.out | refine below_set ?_ GE114.out) | exact HB.out)) hb); clear HO103; clear HO106; clear HO109; clear HO112; clear HO119; clear HO122; clear BK113; clear BK114; clear HB; have HO103 := n0_; have HO106 := n1_; have HO109 := n2_; have HO112 := n3_; have HO119 := n4_; have HO122 := n5_; have HO125 := n6_; have BK113 := n7_; have BK114 := n8_; have HB := n9_; clear n0_ n1_ n2_ n3_ n4_ n5_ n6_ n7_ n8_ n9_; (try clear hb); (try clear hb2); (try clear hk); (try clear hi); (try clear ho0); obtain ⟨Ao101, co101, eo101⟩ := Kd.R_slice HO125.out; subst eo101; have hcz102_0 : w100.cell? ⟨gb113, 0, none⟩ = some (.slice Ao84 t101.length co84) := (blk_cell BK113.out 0).trans rfl; have hcz102_1 : w100.cell? ⟨gb113, 1, none⟩ = some (.slice Ao87 t104.length co87) := (blk_cell BK113.out 1).trans rfl; have hfz102_0 := blk_frozen BK113.out 0; have hfz102_1 := blk_frozen BK113.out 1))
  go_ret
  exact ⟨by first | rfl | (simp [errW_none, errW_some] <;> rfl) | (simp [*, errW_none, errW_some] <;> rfl), by repeat (first | (with_reducible first | exact HB.out | apply below_alloc | apply pw_below_drewN | apply below_drew1 | refine below_set ?_ GE113.out | refine below_set ?_ GE114.out) | exact HB.out)⟩
end Go.Proofs.Ytnomeokicfpidaa.Q
namespace Go.Proofs.Ytnomeokicfpidaa.Q
open Go.RowKit Go.Proofs.YtnomeokicfpidaaW.PrintWords Go.Proofs.YtnomeokicfpidaaW.PrintLast Go.Proofs.YtnomeokicfpidaaW.PrintMore
attribute [local go_sem] max2_int min2_int max_two min_two max_three min_three max_four min_four
set_option linter.unusedVariables false
set_option linter.unusedSimpArgs false
def bits_Len32.f (a0 : Int) : Option (Int) := if 0 ≤ a0 then (if a0 ≤ 4294967295 then some ((Lib.bitLen a0.toNat : Nat) : Int) else none) else none
end Go.Proofs.Ytnomeokicfpidaa.Q
namespace Go.Proofs.Ytnomeokicfpidaa.Q
open Go.RowKit Go.Proofs.YtnomeokicfpidaaW.PrintWords Go.Proofs.YtnomeokicfpidaaW.PrintLast Go.Proofs.YtnomeokicfpidaaW.PrintMore
attribute [local go_sem] max2_int min2_int max_two min_two max_three min_three max_four min_four
set_option linter.unusedVariables false
set_option linter.unusedSimpArgs false
def shape_held.l0 : Nat → Int → Bool → List Int → Int → List Int → Int → Int → Option (Bool)
 | 0, _, _, _, _, _, _, _ => none
 | k + 1, x1, x3, x9, x10, x16, x17, x18 => if x18 < x17 then (if 0 ≤ x18 then (if x18 < (x16.length : Int) then (if 0 ≤ (rd x16 x18) then (if (Go.bits .and .u32 (shr .u32 x1 (rd x16 x18)) 1) = 1 then (shape_held.l0 k x1 x3 x9 (wrap64 (x10 + 1)) x16 x17 (wrap64 (x18 + 1))) else (shape_held.l0 k x1 x3 x9 x10 x16 x17 (wrap64 (x18 + 1)))) else (none)) else (none)) else (none)) else (if x3 = true then (some (x10 == (mn 1 (x9.length : Int)))) else (some (x10 == (x9.length : Int))))
def shape_held.f (k : Nat) (l0_0 : List Int) (l0_1 : List Int) (a1 : Int) (a2 : Int) (a3 : Bool) : Option (Bool) := (shape_Kids.f k l0_0 l0_1 a2).bind fun t102 => (shape_held.l0 k a1 a3 t102 0 t102 (t102.length : Int) 0)
end Go.Proofs.Ytnomeokicfpidaa.Q
namespace Go.Proofs.Ytnomeokicfpidaa.Q
open Go.RowKit Go.Proofs.YtnomeokicfpidaaW.PrintWords Go.Proofs.YtnomeokicfpidaaW.PrintLast Go.Proofs.YtnomeokicfpidaaW.PrintMore
attribute [local go_sem] max2_int min2_int max_two min_two max_three min_three max_four min_four
set_option linter.unusedVariables false
set_option linter.unusedSimpArgs false
mutual
def shape_Proper.j0 : Nat → Int → Bool → List Int → List Int → Option (Bool)
 | 0, _, _, _, _ => none
 | k + 1, x1, x19, x102000, x102001 => if x19 = true then (some false) else (shape_Proper.l0 k x1 x102000 (x102000.length : Int) 0 x102000 x102001)
def shape_Proper.l0 : Nat → Int → List Int → Int → Int → List Int → List Int → Option (Bool)
 | 0, _, _, _, _, _, _ => none
 | k + 1, x1, x21, x22, x23, x102000, x102001 => if x23 < x22 then (if 0 ≤ x23 then (if x23 < (x21.length : Int) then (if (Go.bits .and .u32 (shr .u32 x1 x23) 1) = 1 then ((shape_solid.f (rd x21 x23)).bind fun t105 => (if t105 = true then (if x23 < (x102001.length : Int) then (if (rd x102001 x23) = (-1) then ((shape_held.f k x102000 x102001 x1 x23 ((rd x21 x23) == 1)).bind fun t107 => (if t107 = true then (shape_Proper.l0 k x1 x21 x22 (wrap64 (x23 + 1)) x102000 x102001) else (some false))) else (if 0 ≤ (rd x102001 x23) then (if (Go.bits .and .u32 (shr .u32 x1 (rd x102001 x23)) 1) = 0 then (some false) else ((shape_held.f k x102000 x102001 x1 x23 ((rd x21 x23) == 1)).bind fun t109 => (if t109 = true then (shape_Proper.l0 k x1 x21 x22 (wrap64 (x23 + 1)) x102000 x102001) else (some false)))) else (none))) else (none)) else (some false))) else (shape_Proper.l0 k x1 x21 x22 (wrap64 (x23 + 1)) x102000 x102001)) else (none)) else (none)) else (some true)
end
def shape_Proper.f (k : Nat) (l0_0 : List Int) (l0_1 : List Int) (a1 : Int) : Option (Bool) := (bits_Len32.f a1).bind fun t102 => (if t102 > (l0_0.length : Int) then (shape_Proper.j0 k a1 true l0_0 l0_1) else ((shape_held.f k l0_0 l0_1 a1 (-1) true).bind fun t103 => (shape_Proper.j0 k a1 (!t103) l0_0 l0_1)))
def shape_Proper.T1 : Bool × List (List Nat × List Nat) := (true, [([], []), ([0], [0]), ([], []), ([2], [2]), ([3], [3]), ([1, 4], [1, 4]), ([5, 1], [5]), ([6], [6]), ([6], [6]), ([7, 8, 6, 6], [6, 7, 8]), ([9, 6], [6, 9]), ([6, 10], [6, 10])])
def shape_Proper.B1 : List Nat := [0, 1, 0, 4, 12, 31, 63, 127, 127, 511, 1023, 2047]
theorem shape_Proper.tab1 : rtab .any (opsOf Try.f15 1) = shape_Proper.T1 := by kernel_rfl
theorem shape_Proper.bits1 : waitsOk shape_Proper.T1.2 shape_Proper.B1 = true := by kernel_rfl
end Go.Proofs.Ytnomeokicfpidaa.Q
namespace Go.Proofs.Ytnomeokicfpidaa.Q
open Go.RowKit Go.Proofs.YtnomeokicfpidaaW.PrintWords Go.Proofs.YtnomeokicfpidaaW.PrintLast Go.Proofs.YtnomeokicfpidaaW.PrintMore
attribute [local go_sem] max2_int min2_int max_two min_two max_three min_three max_four min_four
set_option linter.unusedVariables false
set_option linter.unusedSimpArgs false
def imprimaturlaw06_wakes.f (k : Nat)  : Option (Bool) := (shape_Proper.f k (([1] : List Int)) (([(-1)] : List Int)) 1).bind fun t107 => (some t107)
end Go.Proofs.Ytnomeokicfpidaa.Q
namespace Go.Proofs.Ytnomeokicfpidaa.M
open Go.RowKit Go.Proofs.YtnomeokicfpidaaW.PrintWords Go.Proofs.YtnomeokicfpidaaW.PrintLast Go.Proofs.YtnomeokicfpidaaW.PrintMore Go.Proofs.Ytnomeokicfpidaa.Q
set_option linter.unusedVariables false
theorem within_f (a b : Int) (hb : 1 ≤ b) (hb' : b ≤ 4611686018427387904) : imprimaturkeep_Within.f a b = some (a % b) := by
 unfold imprimaturkeep_Within.f
 have h0 := Int.emod_nonneg a (show b ≠ 0 by omega)
 have h1 := Int.emod_lt_of_pos a (show 0 < b by omega)
 rw [if_neg (by omega), if_neg (by omega), Int.tmod_eq_emod]
 by_cases h : 0 ≤ a ∨ b ∣ a
 ·rw [if_pos h, if_neg (by omega)]; simp
 ·rw [if_neg h]
  have : a % b ≠ 0 := fun e => h (.inr (Int.dvd_of_emod_eq_zero e))
  rw [if_pos (by omega), w64 (by omega) (by omega)]
  congr 1; omega
theorem copy_f (l : List Int) (h : l.length < 17592186044416) : imprimaturkeep_Copy_int.f l = some l := by
 unfold imprimaturkeep_Copy_int.f
 rw [if_pos (by simpa using h)]; simp
end Go.Proofs.Ytnomeokicfpidaa.M
namespace Go.Proofs.Ytnomeokicfpidaa.M
open Go.RowKit Go.Proofs.YtnomeokicfpidaaW.PrintWords Go.Proofs.YtnomeokicfpidaaW.PrintLast Go.Proofs.YtnomeokicfpidaaW.PrintMore Go.Proofs.Ytnomeokicfpidaa.Q
set_option linter.unusedVariables false
def Ex {α : Type} (g : Nat → Option α) (Q : α → Prop) : Prop := ∃ r, Ev g r ∧ Q r
theorem Ex.st {α : Type} {g f : Nat → Option α} {Q : α → Prop} (h : Ex f Q) (e : ∀ k, g (k + 1) = f k) : Ex g Q := by
 obtain ⟨r, a, b⟩ := h
 exact ⟨r, Ev.st a e, b⟩
theorem Ex.bd {α β : Type} {g : Nat → Option α} {f : Nat → α → Option β} {a : α} {Q : β → Prop} (h : Ev g a) (k : Ex (fun n => f n a) Q) : Ex (fun n => (g n).bind (fun x => f n x)) Q := by
 obtain ⟨r, x, y⟩ := k
 exact ⟨r, Ev.bd h x, y⟩
def Inv (K P : List Int) : Prop := P.length = K.length ∧ 1 ≤ K.length ∧ (∀ i, i < K.length → okS K P i = true) ∧
 (∀ i, i < K.length → 3 ≤ K.getD i 0 → ∃ m, m < i ∧ P.getD m 0 = P.getD i 0 ∧ solidB (K.getD m 0) = true) ∧ P.getD 0 0 = -1 ∧ solidB (K.getD 0 0) = true
theorem getD_app_l {l m : List Int} {i : Nat} (h : i < l.length) : (l ++ m).getD i 0 = l.getD i 0 := by
 rw [List.getD_eq_getElem?_getD, List.getElem?_append_left h, ← List.getD_eq_getElem?_getD]
theorem getD_app_r {l : List Int} {x : Int} {i : Nat} (h : i = l.length) : (l ++ [x]).getD i 0 = x := by
 subst h; rw [List.getD_eq_getElem?_getD, List.getElem?_append_right (Nat.le_refl _)]; simp
theorem rd_app_l {l m : List Int} {p : Int} (h0 : 0 ≤ p) (h : p < l.length) : rd (l ++ m) p = rd l p := by
 unfold rd; exact getD_app_l (by omega)
theorem okS_app {K P : List Int} {k p : Int} (hn : P.length = K.length) {i : Nat} (hi : i < K.length) (h : okS K P i = true) : okS (K ++ [k]) (P ++ [p]) i = true := by
 obtain ⟨h1, h2, h3, h4, h5⟩ := okS_iff.1 h
 have eK : (K ++ [k]).getD i 0 = K.getD i 0 := getD_app_l hi
 have eP : (P ++ [p]).getD i 0 = P.getD i 0 := getD_app_l (by omega)
 refine okS_iff.2 ⟨by rw [eK]; exact h1, by rw [eK]; exact h2, by rw [eP]; exact h3, by rw [eP]; exact h4, ?_⟩
 rw [eP, eK]
 by_cases hp : P.getD i 0 = -1
 ·rw [if_pos hp] at h5 ⊢; exact h5
 ·rw [if_neg hp] at h5 ⊢
  rw [rd_app_l (by omega) (by omega)]; exact h5
theorem Inv.app {K P : List Int} {k p : Int} (h : Inv K P) (hk1 : 1 ≤ k) (hk4 : k ≤ 4) (hp0 : -1 ≤ p) (hp1 : p < K.length)
  (hp : p = -1 ∨ solidB (rd K p) = true) (hh : 3 ≤ k → p ≠ -1 ∧ rd K p = 1 ∧ ∃ m, m < K.length ∧ P.getD m 0 = p ∧ solidB (K.getD m 0) = true) : Inv (K ++ [k]) (P ++ [p]) := by
 obtain ⟨hn, h1, hok, hb, h0, hs⟩ := h
 refine ⟨by simp [hn], by simp, ?_, ?_, by rw [getD_app_l (by omega)]; exact h0, by rw [getD_app_l (by omega)]; exact hs⟩
 ·intro i hi
  rw [List.length_append, List.length_singleton] at hi
  by_cases hl : i < K.length
  ·exact okS_app hn hl (hok i hl)
  ·obtain rfl : i = K.length := by omega
   have eK : (K ++ [k]).getD K.length 0 = k := getD_app_r rfl
   have eP : (P ++ [p]).getD K.length 0 = p := getD_app_r hn.symm
   refine okS_iff.2 ⟨by rw [eK]; exact hk1, by rw [eK]; exact hk4, by rw [eP]; exact hp0, by rw [eP]; exact hp1, ?_⟩
   rw [eK, eP]
   by_cases hq : p = -1
   ·rw [if_pos hq]
    exact solidB_iff.2 (by
     by_cases h3 : 3 ≤ k
     ·exact absurd hq (hh h3).1
     ·omega)
   ·rw [if_neg hq, rd_app_l (by omega) hp1]
    rcases hp with hp | hp
    ·exact absurd hp hq
    ·rw [hp, Bool.true_and]
     by_cases h3 : 3 ≤ k
     ·rw [(hh h3).2.1]; simp
     ·rw [solidB_iff.2 (by omega)]; rfl
 ·intro i hi h3
  rw [List.length_append, List.length_singleton] at hi
  by_cases hl : i < K.length
  ·rw [getD_app_l hl] at h3
   obtain ⟨m, a, b, c⟩ := hb i hl h3
   exact ⟨m, a, by rw [getD_app_l (by omega), getD_app_l (by omega)]; exact b, by rw [getD_app_l (by omega)]; exact c⟩
  ·obtain rfl : i = K.length := by omega
   rw [getD_app_r rfl] at h3
   obtain ⟨_, _, m, a, b, c⟩ := hh h3
   exact ⟨m, a, by rw [getD_app_l (by omega), getD_app_r hn.symm]; exact b, by rw [getD_app_l a]; exact c⟩
theorem firstSolid_pos {K L : List Int} (hL : ∀ x ∈ L, 0 ≤ x) {x : Int} (hx : x ∈ L) (hs : solidB (rd K x) = true) : 0 ≤ firstSolid K L := by
 induction L with
 | nil => cases hx
 | cons y L ih =>
  rw [firstSolid]
  by_cases hy : solidB (rd K y) = true
  ·rw [if_pos hy]; exact hL y (List.mem_cons_self ..)
  ·rw [if_neg hy]
   rcases List.mem_cons.1 hx with rfl | hx
   ·exact absurd hs hy
   ·exact ih (fun z hz => hL z (List.mem_cons_of_mem _ hz)) hx
theorem Inv.initial {K P : List Int} (h : Inv K P) {a : Int} {i : Nat} (hi : i < K.length) (ha : P.getD i 0 = a) : 0 ≤ initial K P a := by
 obtain ⟨hn, h1, hok, hb, h0, hs⟩ := h
 have : ∃ m : Nat, m < K.length ∧ P.getD m 0 = a ∧ solidB (K.getD m 0) = true := by
  obtain ⟨a1, a2, _⟩ := okS_iff.1 (hok i hi)
  by_cases h3 : 3 ≤ K.getD i 0
  ·obtain ⟨m, b, c, d⟩ := hb i hi h3
   exact ⟨m, by omega, by rw [c, ha], d⟩
  ·exact ⟨i, hi, ha, solidB_iff.2 (by omega)⟩
 obtain ⟨m, b, c, d⟩ := this
 exact firstSolid_pos (fun x hx => (kids_in hn a x hx).1) (mem_kids.2 ⟨m, rfl, by omega, c⟩) (by rw [rd_nat]; exact d)
theorem Inv.valid {K P : List Int} (h : Inv K P) (h24 : K.length ≤ 24) : validB K P = true := by
 have hI := h
 obtain ⟨hn, h1, hok, hb, h0, hs⟩ := h
 unfold validB compsB
 rw [decide_eq_true ⟨h1, h24, hn⟩, Bool.true_and, Bool.and_eq_true, Bool.and_eq_true, List.all_eq_true, List.all_eq_true]
 refine ⟨fun i hi => hok i (by rw [List.mem_range'_1] at hi; omega), ?_, fun i hi => ?_⟩
 ·unfold compB; rw [decide_eq_true (hI.initial (i := 0) (by omega) h0)]; simp
 ·unfold compB
  by_cases hk : (kids P (i : Int)).isEmpty
  ·rw [hk, show ((i : Int) != -1) = true from bne_iff_ne.mpr (by omega)]; rfl
  ·have : ∃ x, x ∈ kids P (i : Int) := by
    cases hl : kids P (i : Int) with
    | nil => rw [hl] at hk; exact absurd rfl hk
    | cons x _ => exact ⟨x, List.mem_cons_self ..⟩
   obtain ⟨x, hx⟩ := this
   obtain ⟨j, rfl, b, c⟩ := mem_kids.1 hx
   rw [decide_eq_true (hI.initial (by omega) c)]; simp
def OfPost (l : List Int) (r : List Int × List Int × List Int × List Int) : Prop :=
 Inv r.1 r.2.1 ∧ r.2.2.1 = r.1 ∧ r.2.2.2 = r.2.1 ∧ r.1.length = max 1 (min l.length 12)
theorem copy2 (K P : List Int) (hK : K.length < 17592186044416) (hP : P.length < 17592186044416) : ((imprimaturkeep_Copy_int.f K).bind fun t1 => ((imprimaturkeep_Copy_int.f P).bind fun t2 => (some (K, P, t1, t2)))) = some (K, P, K, P) := by
 rw [copy_f K hK, Option.bind_some, copy_f P hP, Option.bind_some]
theorem getD_set {l : List Int} {i j : Nat} {x : Int} (h : i < l.length) : (l.set i x).getD j 0 = if i = j then x else l.getD j 0 := by
 rw [List.getD_eq_getElem?_getD, List.getElem?_set, List.getD_eq_getElem?_getD]
 by_cases e : i = j
 ·rw [if_pos e, if_pos e, if_pos h]; rfl
 ·rw [if_neg e, if_neg e]
def Inv2 (K P : List Int) (i : Nat) : Prop := P.length = K.length ∧ 1 ≤ K.length ∧ P.getD 0 0 = -1 ∧ K.getD 0 0 = 2 ∧
 (∀ j, j < K.length → 1 ≤ K.getD j 0 ∧ K.getD j 0 ≤ 4 ∧ -1 ≤ P.getD j 0 ∧ P.getD j 0 < j ∧ (P.getD j 0 = -1 → solidB (K.getD j 0) = true) ∧ (P.getD j 0 ≠ -1 → solidB (rd K (P.getD j 0)) = true)
  ∧ (P.getD j 0 ≠ -1 → solidB (K.getD j 0) = true ∨ rd K (P.getD j 0) = 1 ∨ (P.getD j 0 = 0 ∧ i ≤ j))) ∧
 (∀ j, j < K.length → 3 ≤ K.getD j 0 → ∃ m, m < j ∧ P.getD m 0 = P.getD j 0 ∧ solidB (K.getD m 0) = true)
theorem Inv2.done {K P : List Int} {i : Nat} (h : Inv2 K P i) (hi : K.length ≤ i) : Inv K P := by
 obtain ⟨hn, h1, h0, h2, hok, hb⟩ := h
 refine ⟨hn, h1, fun j hj => ?_, hb, h0, by rw [h2]; rfl⟩
 obtain ⟨a1, a2, a3, a4, a5, a6, a7⟩ := hok j hj
 refine okS_iff.2 ⟨a1, a2, a3, a4, ?_⟩
 by_cases hp : P.getD j 0 = -1
 ·rw [if_pos hp]; exact a5 hp
 ·rw [if_neg hp, a6 hp, Bool.true_and]
  rcases a7 hp with h | h | h
  ·rw [h]; rfl
  ·rw [h]; simp
  ·omega
theorem Inv2.start {K P : List Int} (h : Inv K P) : Inv2 (K.set 0 2) P 0 := by
 obtain ⟨hn, h1, hok, hb, h0, hs⟩ := h
 have g : ∀ j, (K.set 0 2).getD j 0 = if 0 = j then 2 else K.getD j 0 := fun j => getD_set (by omega)
 have gs : ∀ j, solidB (K.getD j 0) = true → solidB ((K.set 0 2).getD j 0) = true := fun j hj => by
  rw [g]
  by_cases e : 0 = j
  ·rw [if_pos e]; rfl
  ·rw [if_neg e]; exact hj
 refine ⟨by rw [List.length_set]; exact hn, by rw [List.length_set]; exact h1, h0, by rw [g]; rfl, fun j hj => ?_, fun j hj h3 => ?_⟩
 ·rw [List.length_set] at hj
  obtain ⟨a1, a2, a3, a4, a5⟩ := okS_iff.1 (hok j hj)
  have b : 1 ≤ (K.set 0 2).getD j 0 ∧ (K.set 0 2).getD j 0 ≤ 4 := by rw [g]; split <;> omega
  refine ⟨b.1, b.2, a3, a4, fun hp => ?_, fun hp => ?_, fun hp => ?_⟩
  ·rw [if_pos hp] at a5; exact gs j a5
  ·rw [if_neg hp, Bool.and_eq_true] at a5
   have := gs (P.getD j 0).toNat a5.1
   exact this
  ·rw [if_neg hp, Bool.and_eq_true, Bool.or_eq_true] at a5
   rcases a5.2 with h | h
   ·exact .inl (gs j h)
   ·by_cases hz : P.getD j 0 = 0
    ·exact .inr (.inr ⟨hz, Nat.zero_le _⟩)
    ·refine .inr (.inl ?_)
     unfold rd at h ⊢
     rw [g, if_neg (by omega)]; exact eq_of_beq h
 ·rw [List.length_set] at hj
  have hj0 : ¬ 0 = j := by intro e; rw [g, if_pos e] at h3; omega
  rw [g, if_neg hj0] at h3
  obtain ⟨m, a, b, c⟩ := hb j hj h3
  exact ⟨m, a, b, gs m c⟩
theorem Inv2.keep {K P : List Int} {i : Nat} (h : Inv2 K P i) (hc : ¬ (P.getD i 0 = 0 ∧ 3 ≤ K.getD i 0)) : Inv2 K P (i + 1) := by
 obtain ⟨hn, h1, h0, h2, hok, hb⟩ := h
 refine ⟨hn, h1, h0, h2, fun j hj => ?_, hb⟩
 obtain ⟨a1, a2, a3, a4, a5, a6, a7⟩ := hok j hj
 refine ⟨a1, a2, a3, a4, a5, a6, fun hp => ?_⟩
 rcases a7 hp with h | h | ⟨h, hi⟩
 ·exact .inl h
 ·exact .inr (.inl h)
 ·by_cases e : i = j
  ·subst e
   exact .inl (solidB_iff.2 (by omega))
  ·exact .inr (.inr ⟨h, by omega⟩)
theorem Inv2.turn {K P : List Int} {i : Nat} (h : Inv2 K P i) (hi : i < K.length) (hp0 : P.getD i 0 = 0) (h3 : 3 ≤ K.getD i 0) : Inv2 (K.set i 1) P (i + 1) := by
 obtain ⟨hn, h1, h0, h2, hok, hb⟩ := h
 have g : ∀ j, (K.set i 1).getD j 0 = if i = j then 1 else K.getD j 0 := fun j => getD_set hi
 have gs : ∀ j, solidB (K.getD j 0) = true → solidB ((K.set i 1).getD j 0) = true := fun j hj => by
  rw [g]
  by_cases e : i = j
  ·rw [if_pos e]; rfl
  ·rw [if_neg e]; exact hj
 have hi0 : i ≠ 0 := by intro e; rw [e] at h3; omega
 refine ⟨by rw [List.length_set]; exact hn, by rw [List.length_set]; exact h1, h0, by rw [g, if_neg hi0]; exact h2, fun j hj => ?_, fun j hj hj3 => ?_⟩
 ·rw [List.length_set] at hj
  obtain ⟨a1, a2, a3, a4, a5, a6, a7⟩ := hok j hj
  have b : 1 ≤ (K.set i 1).getD j 0 ∧ (K.set i 1).getD j 0 ≤ 4 := by rw [g]; split <;> omega
  refine ⟨b.1, b.2, a3, a4, fun hp => gs j (a5 hp), fun hp => gs _ (a6 hp), fun hp => ?_⟩
  rcases a7 hp with h | h | ⟨h, hij⟩
  ·exact .inl (gs j h)
  ·refine .inr (.inl ?_)
   unfold rd at h ⊢
   rw [g]
   by_cases e : i = (P.getD j 0).toNat
   ·rw [if_pos e]
   ·rw [if_neg e]; exact h
  ·by_cases e : i = j
   ·subst e
    exact .inl (by rw [g, if_pos rfl]; rfl)
   ·exact .inr (.inr ⟨h, by omega⟩)
 ·rw [List.length_set] at hj
  have hji : ¬ i = j := by intro e; rw [g, if_pos e] at hj3; omega
  rw [g, if_neg hji] at hj3
  obtain ⟨m, a, b, c⟩ := hb j hj hj3
  exact ⟨m, a, b, gs m c⟩
end Go.Proofs.Ytnomeokicfpidaa.M
namespace Go.Proofs.Ytnomeokicfpidaa.M
open Go.RowKit Go.Proofs.YtnomeokicfpidaaW.PrintWords Go.Proofs.YtnomeokicfpidaaW.PrintLast Go.Proofs.YtnomeokicfpidaaW.PrintMore
set_option linter.unusedVariables false
theorem wraps_u32 (n : Int) (h₀ : 0 ≤ n) (h₁ : n < 2 ^ 32) : IntKind.u32.wrap n = n := by rw [IntKind.wrap_u32]; omega
theorem u32_and (a b : Nat) (ha : a < 4294967296) (hb : b < 4294967296) : Go.bits .and .u32 (a : Int) (b : Int) = ((a &&& b : Nat) : Int) := (bits_nat .u32 32 (by decide) wraps_u32 a b ha hb).1
theorem u32_or (a b : Nat) (ha : a < 4294967296) (hb : b < 4294967296) : Go.bits .or .u32 (a : Int) (b : Int) = ((a ||| b : Nat) : Int) := (bits_nat .u32 32 (by decide) wraps_u32 a b ha hb).2
theorem shr_nat (a i : Nat) (ha : a < 4294967296) : shr .u32 (a : Int) (i : Int) = ((a >>> i : Nat) : Int) := by
 unfold shr
 rw [Int.toNat_natCast, Nat.shiftRight_eq_div_pow, show IntKind.u32.bits = 32 from rfl]
 by_cases h : i ≤ 32
 ·rw [Nat.min_eq_left h]; simp
 ·rw [Nat.min_eq_right (by omega)]
  have h1 : a / 2 ^ i = 0 := Nat.div_eq_of_lt (Nat.lt_of_lt_of_le (show a < 2 ^ 32 from ha) (Nat.pow_le_pow_right (by decide) (by omega)))
  have h2 : (a : Int) / 2 ^ 32 = 0 := by
   have : a / 4294967296 = 0 := Nat.div_eq_of_lt ha
   omega
  rw [h1, h2]; rfl
theorem shr_lt (a i : Nat) (ha : a < 4294967296) : a >>> i < 4294967296 := by
 rw [Nat.shiftRight_eq_div_pow]; exact Nat.lt_of_le_of_lt (Nat.div_le_self _ _) ha
theorem shl_one (i : Nat) (hi : i < 32) : shl .u32 1 (i : Int) = ((2 ^ i : Nat) : Int) := by
 unfold shl
 rw [Int.toNat_natCast, show IntKind.u32.bits = 32 from rfl, Nat.min_eq_left (by omega), Int.one_mul, wraps_u32]
 ·simp
 ·have : (0 : Int) < 2 ^ i := Int.pow_pos (by decide)
  omega
 ·have : 2 ^ i < 2 ^ 32 := Nat.pow_lt_pow_right (by decide) hi
  exact_mod_cast this
theorem pow_lt32 {i : Nat} (hi : i < 32) : 2 ^ i < 4294967296 := (show 2 ^ i < 2 ^ 32 from Nat.pow_lt_pow_right (by decide) hi)
theorem bit1 (a i : Nat) (ha : a < 4294967296) : Go.bits .and .u32 (shr .u32 (a : Int) (i : Int)) 1 = if a.testBit i then 1 else 0 := by
 rw [shr_nat a i ha, show (1 : Int) = ((1 : Nat) : Int) from rfl, u32_and _ _ (shr_lt a i ha) (by decide)]
 rw [Nat.testBit, Nat.and_comm]
 rw [Nat.and_comm, Nat.and_one_is_mod]
 have : (a >>> i) % 2 = 0 ∨ (a >>> i) % 2 = 1 := by omega
 rcases this with h | h
 ·rw [h]; rfl
 ·rw [h]; rfl
theorem u64w (i : Nat) (hi : i < 4611686018427387904) : IntKind.u64.wrap (i : Int) = (i : Int) := by
 have h : IntKind.u64.wrap (i : Int) = (i : Int) % 18446744073709551616 := by simp [IntKind.wrap, IntKind.bits, IntKind.signed]
 rw [h]; omega
end Go.Proofs.Ytnomeokicfpidaa.M
namespace Go.Proofs.Ytnomeokicfpidaa.M
open Go.RowKit Go.Proofs.YtnomeokicfpidaaW.PrintWords Go.Proofs.YtnomeokicfpidaaW.PrintLast Go.Proofs.YtnomeokicfpidaaW.PrintMore Go.Proofs.Ytnomeokicfpidaa.Q
set_option linter.unusedVariables false
def cnt (s : Nat) (L : List Int) : Nat := L.countP (fun x => s.testBit x.toNat)
def heldB (K P : List Int) (s : Nat) (a : Int) (one : Bool) : Bool := if one = true then cnt s (kids P a) == min 1 (kids P a).length else cnt s (kids P a) == (kids P a).length
end Go.Proofs.Ytnomeokicfpidaa.M
namespace Go.Proofs.Ytnomeokicfpidaa.M
open Go.RowKit Go.Proofs.YtnomeokicfpidaaW.PrintWords Go.Proofs.YtnomeokicfpidaaW.PrintLast Go.Proofs.YtnomeokicfpidaaW.PrintMore
set_option linter.unusedVariables false
theorem Inv.tree {K P : List Int} (h : Inv K P) : Tree P := fun j hj => by
 obtain ⟨_, _, a, b, _⟩ := okS_iff.1 (h.2.2.1 j (by have := h.1; omega))
 exact ⟨a, b⟩
theorem kids_nodup (P : List Int) (a : Int) : (kids P a).Nodup := by
 unfold kids kidsFrom List.Nodup
 rw [List.pairwise_map]
 refine List.Pairwise.imp ?_ (List.Pairwise.filter _ (List.nodup_range' (s := 0) (n := P.length) 1))
 intro x y h e
 exact h (by omega)
def sk (K P : List Int) (a : Int) : List Int := (kids P a).filter (fun x => solidB (rd K x))
def one (K : List Int) (a : Int) : Bool := a == -1 || rd K a == 1
structure LP (K P : List Int) (a : Int) (s : Nat) : Prop where
 mem : ∀ j : Nat, s.testBit j = true → j < K.length ∧ (j : Int) ≠ a ∧ Un P j a ∧ solidB (K.getD j 0) = true ∧ (P.getD j 0 = a ∨ (0 ≤ P.getD j 0 ∧ s.testBit (P.getD j 0).toNat = true))
 own : heldB K P s a (one K a) = true
 all : ∀ j : Nat, s.testBit j = true → heldB K P s (j : Int) (one K (j : Int)) = true
theorem cnt_congr {s s' : Nat} {L : List Int} (h : ∀ x ∈ L, s.testBit x.toNat = s'.testBit x.toNat) : cnt s L = cnt s' L := by
 unfold cnt
 exact List.countP_congr (fun x hx => by rw [h x hx])
theorem heldB_congr {K P : List Int} {s s' : Nat} {a : Int} {o : Bool} (h : ∀ x ∈ kids P a, s.testBit x.toNat = s'.testBit x.toNat) : heldB K P s a o = heldB K P s' a o := by
 unfold heldB; rw [cnt_congr h]
theorem cnt_all {s : Nat} {L : List Int} : cnt s L = L.length ↔ ∀ x ∈ L, s.testBit x.toNat = true := by
 unfold cnt
 exact List.countP_eq_length
theorem cnt_zero {s : Nat} {L : List Int} : cnt s L = 0 ↔ ∀ x ∈ L, ¬ s.testBit x.toNat = true := by
 unfold cnt
 exact List.countP_eq_zero
theorem cnt_one {s : Nat} : ∀ {L : List Int}, L.Nodup → (cnt s L = 1 ↔ ∃ k ∈ L, s.testBit k.toNat = true ∧ ∀ m ∈ L, s.testBit m.toNat = true → m = k)
 | [], _ => by simp [cnt]
 | x :: L, hd => by
  obtain ⟨h1, h2⟩ := List.nodup_cons.1 hd
  have ih := cnt_one (s := s) h2
  have hc : cnt s (x :: L) = cnt s L + (if s.testBit x.toNat = true then 1 else 0) := by unfold cnt; rw [List.countP_cons]
  rw [hc]
  by_cases hx : s.testBit x.toNat = true
  ·rw [if_pos hx]
   constructor
   ·intro h
    have h0 := cnt_zero.1 (show cnt s L = 0 by omega)
    refine ⟨x, List.mem_cons_self .., hx, fun m hm hb => ?_⟩
    rcases List.mem_cons.1 hm with rfl | hm
    ·rfl
    ·exact absurd hb (h0 m hm)
   ·rintro ⟨k, hk, hb, hu⟩
    have hxk := hu x (List.mem_cons_self ..) hx
    have : cnt s L = 0 := cnt_zero.2 (fun m hm hb' => h1 (by
     have := hu m (List.mem_cons_of_mem _ hm) hb'
     rw [hxk, ← this]; exact hm))
    omega
  ·rw [if_neg hx, Nat.add_zero, ih]
   constructor
   ·rintro ⟨k, hk, hb, hu⟩
    refine ⟨k, List.mem_cons_of_mem _ hk, hb, fun m hm hb' => ?_⟩
    rcases List.mem_cons.1 hm with rfl | hm
    ·exact absurd hb' hx
    ·exact hu m hm hb'
   ·rintro ⟨k, hk, hb, hu⟩
    rcases List.mem_cons.1 hk with rfl | hk
    ·exact absurd hb hx
    ·exact ⟨k, hk, hb, fun m hm hb' => hu m (List.mem_cons_of_mem _ hm) hb'⟩
theorem held_one {K P : List Int} {s : Nat} {a : Int} : heldB K P s a true = true ↔ kids P a = [] ∨ ∃ k ∈ kids P a, s.testBit k.toNat = true ∧ ∀ m ∈ kids P a, s.testBit m.toNat = true → m = k := by
 unfold heldB
 rw [if_pos rfl, beq_iff_eq]
 by_cases h : kids P a = []
 ·rw [h]; simp [cnt]
 ·have : 0 < (kids P a).length := List.length_pos_iff.2 h
  rw [Nat.min_eq_left (by omega), cnt_one (kids_nodup P a)]
  constructor
  ·exact .inr
  ·rintro (h' | h')
   ·exact absurd h' h
   ·exact h'
theorem held_all {K P : List Int} {s : Nat} {a : Int} : heldB K P s a false = true ↔ ∀ m ∈ kids P a, s.testBit m.toNat = true := by
 unfold heldB
 rw [if_neg (by simp), beq_iff_eq]
 exact cnt_all
section
variable {K P : List Int} (hI : Inv K P)
include hI
theorem kid_par {a x : Int} (hx : x ∈ kids P a) (ha : a ≠ -1) : 0 ≤ a ∧ a < K.length ∧ solidB (rd K a) = true ∧ (solidB (rd K x) = true ∨ rd K a = 1) := by
 obtain ⟨j, rfl, h1, h2⟩ := mem_kids.1 hx
 have hn := hI.1
 obtain ⟨_, _, b1, b2, b3⟩ := okS_iff.1 (hI.2.2.1 j (by omega))
 rw [h2] at b1 b2 b3
 rw [if_neg ha, Bool.and_eq_true, Bool.or_eq_true, beq_iff_eq] at b3
 rw [rd_nat]
 exact ⟨by omega, by omega, b3.1, b3.2⟩
theorem sk_nil {a : Int} (h : sk K P a = []) : kids P a = [] := by
 have hn := hI.1
 cases hk : kids P a with
 | nil => rfl
 | cons x L =>
  exfalso
  have hx : x ∈ kids P a := by rw [hk]; exact List.mem_cons_self ..
  obtain ⟨j, rfl, h1, h2⟩ := mem_kids.1 hx
  have : ∃ m : Nat, m < K.length ∧ P.getD m 0 = a ∧ solidB (K.getD m 0) = true := by
   obtain ⟨a1, a2, _⟩ := okS_iff.1 (hI.2.2.1 j (by omega))
   by_cases h3 : 3 ≤ K.getD j 0
   ·obtain ⟨m, b, c, d⟩ := hI.2.2.2.1 j (by omega) h3
    exact ⟨m, by omega, by rw [c, h2], d⟩
   ·exact ⟨j, by omega, h2, solidB_iff.2 (by omega)⟩
  obtain ⟨m, b, c, d⟩ := this
  have : (m : Int) ∈ sk K P a := List.mem_filter.2 ⟨mem_kids.2 ⟨m, rfl, by omega, c⟩, by rw [rd_nat]; exact d⟩
  rw [h] at this; cases this
theorem one_false {a : Int} (h : sk K P a ≠ []) : one K a = false ↔ (0 ≤ a ∧ rd K a = 2) := by
 obtain ⟨x, hx⟩ := List.exists_mem_of_ne_nil _ h
 have hx' := (List.mem_filter.1 hx).1
 unfold one
 by_cases e : a = -1
 ·subst e; simp
 ·obtain ⟨h0, _, h2, _⟩ := kid_par hI hx' e
  rw [show (a == -1) = false from beq_eq_false_iff_ne.mpr e, Bool.false_or, beq_eq_false_iff_ne]
  have := solidB_iff.1 h2
  constructor
  ·intro h; exact ⟨h0, by omega⟩
  ·intro h; omega
end
end Go.Proofs.Ytnomeokicfpidaa.M
namespace Go.Proofs.Ytnomeokicfpidaa.M
open Go.RowKit Go.Proofs.YtnomeokicfpidaaW.PrintWords Go.Proofs.YtnomeokicfpidaaW.PrintLast Go.Proofs.YtnomeokicfpidaaW.PrintMore
set_option linter.unusedVariables false
def hold (K P R : List Int) (x : Int) : Prop := if one K x = true then (kids P x = [] ∨ ∃ k ∈ kids P x, k ∈ R ∧ ∀ m ∈ kids P x, m ∈ R → m = k) else ∀ m ∈ kids P x, m ∈ R
structure BL (K P : List Int) (a : Int) (R : List Int) : Prop where
 nd : R.Nodup
 el : ∀ x ∈ R, 0 ≤ x ∧ x < K.length ∧ solidB (rd K x) = true ∧ Un P x a ∧ x ≠ a
 ord : ∀ pre x post, R = pre ++ x :: post → rd P x = a ∨ rd P x ∈ pre
 hel : ∀ x ∈ R, hold K P R x
 own : hold K P R a
theorem BL.par {K P : List Int} {a : Int} {R : List Int} (h : BL K P a R) {x : Int} (hx : x ∈ R) : rd P x = a ∨ rd P x ∈ R := by
 obtain ⟨pre, post, rfl⟩ := List.append_of_mem hx
 rcases h.ord pre x post rfl with e | e
 ·exact .inl e
 ·exact .inr (List.mem_append_left _ e)
theorem hold_congr {K P R R' : List Int} {x : Int} (h : ∀ m ∈ kids P x, m ∈ R ↔ m ∈ R') : hold K P R x ↔ hold K P R' x := by
 unfold hold
 by_cases o : one K x = true
 ·rw [if_pos o, if_pos o]
  constructor
  ·rintro (e | ⟨k, hk, hb, hu⟩)
   ·exact .inl e
   ·exact .inr ⟨k, hk, (h k hk).1 hb, fun m hm hb' => hu m hm ((h m hm).2 hb')⟩
  ·rintro (e | ⟨k, hk, hb, hu⟩)
   ·exact .inl e
   ·exact .inr ⟨k, hk, (h k hk).2 hb, fun m hm hb' => hu m hm ((h m hm).1 hb')⟩
 ·rw [if_neg o, if_neg o]
  exact ⟨fun g m hm => (h m hm).1 (g m hm), fun g m hm => (h m hm).2 (g m hm)⟩
theorem mem_kids_rd {P : List Int} {a x : Int} (h : x ∈ kids P a) : 0 ≤ x ∧ x < P.length ∧ rd P x = a := by
 obtain ⟨j, rfl, h1, h2⟩ := mem_kids.1 h
 rw [rd_nat]; exact ⟨by omega, by omega, h2⟩
theorem kids_of_rd {P : List Int} {a x : Int} (h0 : 0 ≤ x) (h1 : x < P.length) (h : rd P x = a) : x ∈ kids P a :=
 mem_kids.2 ⟨x.toNat, by omega, by omega, h⟩
theorem Un.kid1 {P : List Int} {a x : Int} (h : x ∈ kids P a) : Un P x a := by
 obtain ⟨h0, h1, e⟩ := mem_kids_rd h
 exact .up h0 h1 (e ▸ .refl _)
section
variable {K P : List Int} (hO : Ok K P)
include hO
theorem sib_eq {a k m x : Int} (hk : k ∈ kids P a) (hm : m ∈ kids P a) (h : Un P x k) (h' : Un P x m) : k = m := by
 obtain ⟨j, rfl, h1, h2⟩ := mem_kids.1 hk
 obtain ⟨i, rfl, h3, h4⟩ := mem_kids.1 hm
 exact congrArg _ (Un.sib hO.tree h1 h3 h2 h4 h h')
theorem BL.some {a : Int} (L : List Int) (F : Int → List Int) (hd : L.Nodup) (hL : ∀ k ∈ L, k ∈ kids P a ∧ solidB (rd K k) = true ∧ BL K P k (F k))
  (hc : kids P a = [] ∨ (one K a = true ∧ ∃ k, L = [k]) ∨ (one K a = false ∧ ∀ m ∈ kids P a, m ∈ L)) : BL K P a (L.flatMap (fun k => k :: F k)) := by
 have hT := hO.tree
 have hn := hO.1
 have mem : ∀ x, x ∈ L.flatMap (fun k => k :: F k) ↔ ∃ k ∈ L, x = k ∨ x ∈ F k := by
  intro x; rw [List.mem_flatMap]; simp only [List.mem_cons]
 have lies : ∀ x k, k ∈ L → (x = k ∨ x ∈ F k) → Un P x k := by
  rintro x k hk (rfl | h)
  ·exact .refl _
  ·exact ((hL k hk).2.2.el x h).2.2.2.1
 have kin : ∀ m ∈ kids P a, m ∈ L.flatMap (fun k => k :: F k) ↔ m ∈ L := by
  intro m hm
  rw [mem]
  constructor
  ·rintro ⟨k, hk, h⟩
   have := sib_eq hO hm (hL k hk).1 (.refl _) (lies m k hk h)
   rw [this]; exact hk
  ·intro h; exact ⟨m, h, .inl rfl⟩
 have deep : ∀ k ∈ L, ∀ y, Un P y k → ∀ m ∈ kids P y, (m ∈ L.flatMap (fun k => k :: F k) ↔ m ∈ F k) := by
  intro k hk y hy m hm
  have hmy := Un.kid1 hm
  have hmk : Un P m k := hmy.trans hy
  have hne : m ≠ k := by
   rintro rfl
   obtain ⟨m0, m1, m2⟩ := mem_kids_rd hm
   have := hT.rdP m0 m1
   have := hy.le hT
   omega
  rw [mem]
  constructor
  ·rintro ⟨k', hk', h⟩
   have e := sib_eq hO (hL k hk).1 (hL k' hk').1 hmk (lies m k' hk' h)
   rw [← e] at h
   exact h.resolve_left hne
  ·intro h; exact ⟨k, hk, .inr h⟩
 refine ⟨?_, ?_, ?_, ?_, ?_⟩
 ·rw [List.Nodup, List.pairwise_flatMap]
  refine ⟨fun k hk => ?_, ?_⟩
  ·have b := (hL k hk).2.2
   exact List.nodup_cons.2 ⟨fun h => ((b.el k h).2.2.2.2) rfl, b.nd⟩
  ·refine List.Pairwise.imp_of_mem (R := fun a b => a ≠ b) ?_ hd
   intro k k' hk hk' hne x hx y hy e
   rw [List.mem_cons] at hx hy
   subst e
   exact hne (sib_eq hO (hL k hk).1 (hL k' hk').1 (lies x k hk hx) (lies x k' hk' hy))
 ·intro x hx
  obtain ⟨k, hk, h⟩ := (mem x).1 hx
  obtain ⟨k0, k1, k2⟩ := mem_kids_rd (hL k hk).1
  have hak := (hO.kid (hL k hk).1).2.2.1
  rcases h with rfl | h
  ·exact ⟨k0, by omega, (hL x hk).2.1, Un.kid1 (hL x hk).1, by omega⟩
  ·obtain ⟨x0, x1, x2, x3, x4⟩ := (hL k hk).2.2.el x h
   have := x3.le hT
   exact ⟨x0, x1, x2, x3.trans (Un.kid1 (hL k hk).1), by omega⟩
 ·intro pre x post e
  have main : ∀ (L0 : List Int) (pre post : List Int), (∀ k ∈ L0, k ∈ L) → L0.flatMap (fun k => k :: F k) = pre ++ x :: post → rd P x = a ∨ rd P x ∈ pre := by
   intro L0
   induction L0 with
   | nil => intro pre post _ e; simp at e
   | cons k L0 ih =>
    intro pre post hsub e
    rw [List.flatMap_cons] at e
    have hk := hsub k (List.mem_cons_self ..)
    rcases List.append_eq_append_iff.1 e with ⟨ls, h1, h2⟩ | ⟨bs, h1, h2⟩
    ·
     rcases ih ls post (fun k' h => hsub k' (List.mem_cons_of_mem _ h)) h2 with h | h
     ·exact .inl h
     ·exact .inr (by rw [h1]; exact List.mem_append_right _ h)
    ·
     cases bs with
     | nil =>
      simp only [List.append_nil, List.nil_append] at h1 h2
      rcases ih [] post (fun k' h => hsub k' (List.mem_cons_of_mem _ h)) (by simpa using h2.symm) with h | h
      ·exact .inl h
      ·cases h
     | cons b bs =>
      simp only [List.cons_append, List.cons.injEq] at h2
      obtain ⟨rfl, h2⟩ := h2
      cases pre with
      | nil =>
       simp only [List.nil_append, List.cons.injEq] at h1
       rw [← h1.1]
       exact .inl (mem_kids_rd (hL k hk).1).2.2
      | cons p pre =>
       simp only [List.cons_append, List.cons.injEq] at h1
       obtain ⟨rfl, h1⟩ := h1
       rcases (hL k hk).2.2.ord pre x bs h1 with h | h
       ·exact .inr (by rw [h]; exact List.mem_cons_self ..)
       ·exact .inr (List.mem_cons_of_mem _ h)
  exact main L pre post (fun k h => h) e
 ·intro x hx
  obtain ⟨k, hk, h⟩ := (mem x).1 hx
  rw [hold_congr (deep k hk x (lies x k hk h))]
  rcases h with rfl | h
  ·exact (hL x hk).2.2.own
  ·exact (hL k hk).2.2.hel x h
 ·rw [hold_congr kin]
  unfold hold
  rcases hc with e | ⟨o, k, rfl⟩ | ⟨o, h⟩
  ·split
   ·exact .inl e
   ·rw [e]; simp
  ·rw [if_pos o]
   exact .inr ⟨k, (hL k (List.mem_singleton.2 rfl)).1, List.mem_singleton.2 rfl, fun m _ hm => List.mem_singleton.1 hm⟩
  ·rw [if_neg (by rw [o]; simp)]
   exact h
theorem BL.same {a b : Int} {R S : List Int} (h : BL K P a R) (h' : BL K P b S) (hsub : ∀ x ∈ R, x ∈ S) (hab : Un P a b) : ∀ (d : Nat) (x : Int), x - a ≤ d → x ∈ S → Un P x a → x ≠ a → x ∈ R := by
 have hT := hO.tree
 have hn := hO.1
 have haS : ∀ x, x ∈ S → Un P x a → a = b ∨ a ∈ S := by
  intro x hx hu
  have : ∀ (n : Nat) (x : Int), x ≤ n → x ∈ S → Un P x a → a = b ∨ a ∈ S := by
   intro n
   induction n with
   | zero =>
    intro x hx0 hx hu
    by_cases e : x = a
    ·exact .inr (e ▸ hx)
    ·obtain ⟨x0, x1, x2, x3, x4⟩ := h'.el x hx
     obtain ⟨_, _, u⟩ := hu.cases' e
     have hp := hT.rdP x0 (by omega)
     have hle := u.le hT
     have hle' := hab.le hT
     rcases h'.par hx with e' | e'
     ·have : rd P x = a ∨ rd P x = b := .inr e'
      left; omega
     ·have := (h'.el _ e').1; omega
   | succ n ih =>
    intro x hx0 hx hu
    by_cases e : x = a
    ·exact .inr (e ▸ hx)
    ·obtain ⟨x0, x1, x2, x3, x4⟩ := h'.el x hx
     obtain ⟨_, _, u⟩ := hu.cases' e
     have hp := hT.rdP x0 (by omega)
     rcases h'.par hx with e' | e'
     ·rw [e'] at u
      have := u.le hT
      have := hab.le hT
      left; omega
     ·exact ih (rd P x) (by omega) e' u
  exact this x.toNat x (by have := (h'.el x hx).1; omega) hx hu
 have hh : ∀ y, (y = a ∨ y ∈ R) → (∃ x ∈ S, Un P x a) → hold K P S y := by
  rintro y (rfl | hy) ⟨x, hx, hu⟩
  ·rcases haS x hx hu with e | e
   ·rw [e]; exact h'.own
   ·exact h'.hel _ e
  ·exact h'.hel y (hsub y hy)
 intro d
 induction d with
 | zero =>
  intro x hd hx hu hne
  have := hu.lt hT hne; omega
 | succ d ih =>
  intro x hd hx hu hne
  obtain ⟨x0, x1, u⟩ := hu.cases' hne
  have hp := hT.rdP x0 x1
  have hk : x ∈ kids P (rd P x) := kids_of_rd x0 x1 rfl
  have hpar : rd P x = a ∨ rd P x ∈ R := by
   by_cases e : rd P x = a
   ·exact .inl e
   ·right
    have hb : rd P x ∈ S := by
     rcases h'.par hx with e' | e'
     ·have := u.le hT
      have := hab.le hT
      omega
     ·exact e'
    exact ih (rd P x) (by omega) hb u e
  have hR : hold K P R (rd P x) := by
   rcases hpar with e | e
   ·rw [e]; exact h.own
   ·exact h.hel _ e
  have hS' : hold K P S (rd P x) := hh _ hpar ⟨x, hx, hu⟩
  unfold hold at hR hS'
  by_cases o : one K (rd P x) = true
  ·rw [if_pos o] at hR hS'
   rcases hR with e | ⟨k, hk1, hk2, hk3⟩
   ·rw [e] at hk; cases hk
   ·rcases hS' with e | ⟨k', hk1', hk2', hk3'⟩
    ·rw [e] at hk; cases hk
    ·rw [hk3' x hk hx, ← hk3' k hk1 (hsub k hk2)]; exact hk2
  ·rw [if_neg o] at hR
   exact hR x hk
end
end Go.Proofs.Ytnomeokicfpidaa.M
namespace Go.Proofs.Ytnomeokicfpidaa.M
open Go.RowKit Go.Proofs.YtnomeokicfpidaaW.PrintWords Go.Proofs.YtnomeokicfpidaaW.PrintLast Go.Proofs.YtnomeokicfpidaaW.PrintMore Go.Proofs.Ytnomeokicfpidaa.EW
set_option linter.unusedVariables false
section
variable {K P : List Int} (hO : Ok K P)
include hO
omit hO in
theorem one_of {a : Int} (h0 : 0 ≤ a) : one K a = true ↔ rd K a = 1 := by
 unfold one
 rw [show (a == -1) = false from beq_eq_false_iff_ne.mpr (by omega), Bool.false_or, beq_iff_eq]
def PastOk (K P Q : List Int) : Prop := ∀ i : Int, 0 ≤ i → i < K.length → belowL K P (wasS Q i) i = [] ∨ BL K P i (belowL K P (wasS Q i) i)
end
end Go.Proofs.Ytnomeokicfpidaa.M
namespace Go.Proofs.Ytnomeokicfpidaa.M
open Go.RowKit Go.Proofs.YtnomeokicfpidaaW.PrintWords Go.Proofs.YtnomeokicfpidaaW.PrintLast Go.Proofs.YtnomeokicfpidaaW.PrintMore
set_option linter.unusedVariables false
theorem tb_or {k s j : Nat} : (2 ^ k ||| s).testBit j = true ↔ k = j ∨ s.testBit j = true := by
 rw [Nat.testBit_or, Nat.testBit_two_pow, Bool.or_eq_true, decide_eq_true_eq]
open Classical in
open Classical in
section
variable {K P : List Int} (hI : Inv K P)
include hI
end
end Go.Proofs.Ytnomeokicfpidaa.M
namespace Go.Proofs.Ytnomeokicfpidaa.M
open Go.RowKit Go.Proofs.YtnomeokicfpidaaW.PrintWords Go.Proofs.YtnomeokicfpidaaW.PrintLast Go.Proofs.YtnomeokicfpidaaW.PrintMore Go.Proofs.Ytnomeokicfpidaa.Q
set_option linter.unusedVariables false
set_option linter.unusedSectionVars false
theorem pigeon {L : List Int} (hd : L.Nodup) {n : Nat} (h : ∀ x ∈ L, -1 ≤ x ∧ x < n) : L.length ≤ n + 1 := by
 have hN : ((List.range' 0 (n + 1)).map (fun j : Nat => (j : Int) - 1)).Nodup := by
  unfold List.Nodup
  rw [List.pairwise_map]
  refine List.Pairwise.imp ?_ (List.nodup_range' (s := 0) (n := n + 1) 1)
  intro x y h e
  exact h (by omega)
 have hp : L.Perm (((List.range' 0 (n + 1)).map (fun j : Nat => (j : Int) - 1)).filter (fun x => decide (x ∈ L))) := by
  refine (List.perm_ext_iff_of_nodup hd (List.Pairwise.filter _ hN)).2 fun x => ?_
  rw [List.mem_filter, decide_eq_true_eq, List.mem_map]
  constructor
  ·intro hx
   have := h x hx
   exact ⟨⟨(x + 1).toNat, List.mem_range'_1.2 ⟨by omega, by omega⟩, by omega⟩, hx⟩
  ·exact fun h => h.2
 rw [hp.length_eq]
 refine Nat.le_trans (List.length_filter_le _ _) ?_
 rw [List.length_map, List.length_range']; exact Nat.le_refl _
def bs : List Int → Nat → Nat
 | [], s => s
 | x :: L, s => bs L (s ||| 2 ^ x.toNat)
theorem tb_bs {j : Nat} : ∀ {L : List Int} {s : Nat}, (∀ x ∈ L, 0 ≤ x) → ((bs L s).testBit j = true ↔ s.testBit j = true ∨ (j : Int) ∈ L)
 | [], s, _ => by simp [bs]
 | x :: L, s, h => by
  have h0 := h x (List.mem_cons_self ..)
  rw [bs, tb_bs (fun y hy => h y (List.mem_cons_of_mem _ hy)), Nat.or_comm, tb_or, List.mem_cons]
  constructor
  ·rintro ((h | h) | h)
   ·exact .inr (.inl (by omega))
   ·exact .inl h
   ·exact .inr (.inr h)
  ·rintro (h | h | h)
   ·exact .inl (.inr h)
   ·exact .inl (.inl (by omega))
   ·exact .inr h
structure CI (K P D T : List Int) (s : Nat) : Prop where
 nd : (D ++ T).Nodup
 el : ∀ x ∈ D ++ T, x = -1 ∨ (0 ≤ x ∧ x < K.length ∧ solidB (rd K x) = true ∧ rd P x ∈ D)
 bit : ∀ j : Nat, s.testBit j = true ↔ (j : Int) ∈ D ++ T
 hel : ∀ x ∈ D, heldB K P s x (one K x) = true
 top : (-1 : Int) ∈ D ++ T
section
variable {K P : List Int} (hI : Inv K P)
include hI
theorem CI.step {D T L : List Int} {a : Int} {s s' : Nat} (h : CI K P D (a :: T) s) (hL : ∀ x ∈ L, x ∈ sk K P a) (hd : L.Nodup)
  (hc : sk K P a = [] ∨ (one K a = true ∧ ∃ k, L = [k]) ∨ (one K a = false ∧ L = sk K P a)) (hs : ∀ j : Nat, s'.testBit j = true ↔ s.testBit j = true ∨ (j : Int) ∈ L) :
  CI K P (D ++ [a]) (T ++ L) s' := by
 have hn := hI.1
 have hk : ∀ x ∈ L, ∃ j : Nat, x = j ∧ j < P.length ∧ P.getD j 0 = a ∧ solidB (rd K x) = true := by
  intro x hx
  obtain ⟨h1, h2⟩ := List.mem_filter.1 (hL x hx)
  obtain ⟨j, e, b, c⟩ := mem_kids.1 h1
  exact ⟨j, e, b, c, h2⟩
 have haD : a ∉ D := fun e => (List.nodup_append.1 h.nd).2.2 a e a (List.mem_cons_self ..) rfl
 have hkn : ∀ x : Int, 0 ≤ x → rd P x = a → x ∉ D ++ a :: T := by
  intro x hx hp hm
  rcases h.el x hm with e | ⟨_, _, _, e⟩
  ·omega
  ·exact haD (hp ▸ e)
 have hap : ∀ x ∈ L, 0 ≤ x ∧ rd P x = a := by
  intro x hx
  obtain ⟨j, e, b, c, _⟩ := hk x hx
  rw [e, rd_nat]; exact ⟨by omega, c⟩
 have e1 : D ++ [a] ++ (T ++ L) = (D ++ a :: T) ++ L := by simp
 refine ⟨?_, ?_, ?_, ?_, ?_⟩
 ·rw [e1]
  refine List.nodup_append.2 ⟨h.nd, hd, fun x hx y hy e => ?_⟩
  subst e
  exact hkn x (hap x hy).1 (hap x hy).2 hx
 ·rw [e1]
  intro x hx
  rcases List.mem_append.1 hx with hx | hx
  ·rcases h.el x hx with e | ⟨a1, a2, a3, a4⟩
   ·exact .inl e
   ·exact .inr ⟨a1, a2, a3, List.mem_append_left _ a4⟩
  ·obtain ⟨j, e, b, c, d⟩ := hk x hx
   obtain ⟨f, g⟩ := hap x hx
   exact .inr ⟨f, by omega, d, by rw [g]; exact List.mem_append_right _ (List.mem_cons_self ..)⟩
 ·rw [e1]
  intro j
  rw [hs, h.bit, List.mem_append (s := D ++ a :: T)]
 ·intro x hx
  have hkx : ∀ y ∈ kids P x, 0 ≤ y ∧ rd P y = x := by
   intro y hy
   obtain ⟨j, e, b, c⟩ := mem_kids.1 hy
   rw [e, rd_nat]; exact ⟨by omega, c⟩
  rcases List.mem_append.1 hx with hx | hx
  ·have := h.hel x hx
   rw [heldB_congr (s' := s)]
   ·exact this
   ·intro y hy
    obtain ⟨f, g⟩ := hkx y hy
    rw [Bool.eq_iff_iff, hs, show ((y.toNat : Nat) : Int) = y by omega]
    constructor
    ·rintro (e | e)
     ·exact e
     ·have := (hap y e).2
      rw [g] at this
      rw [this] at hx
      exact absurd hx haD
    ·exact .inl
  ·rw [List.mem_singleton] at hx
   subst hx
   have hb : ∀ y ∈ kids P x, (s'.testBit y.toNat = true ↔ y ∈ L) := by
    intro y hy
    obtain ⟨f, g⟩ := hkx y hy
    rw [hs, h.bit, show ((y.toNat : Nat) : Int) = y by omega]
    constructor
    ·rintro (e | e)
     ·exact absurd e (hkn y f g)
     ·exact e
    ·exact .inr
   rcases hc with hc | ⟨h1, k, h2⟩ | ⟨h1, h2⟩
   ·have e := sk_nil hI hc
    unfold heldB cnt
    rw [e]; simp
   ·rw [h1]
    refine held_one.2 (.inr ⟨k, ?_, ?_, ?_⟩)
    ·exact (List.mem_filter.1 (hL k (by rw [h2]; exact List.mem_cons_self ..))).1
    ·exact (hb k (List.mem_filter.1 (hL k (by rw [h2]; exact List.mem_cons_self ..))).1).2 (by rw [h2]; exact List.mem_cons_self ..)
    ·intro m hm hbm
     have := (hb m hm).1 hbm
     rw [h2, List.mem_singleton] at this
     exact this
   ·rw [h1]
    refine held_all.2 fun m hm => (hb m hm).2 ?_
    rw [h2]
    refine List.mem_filter.2 ⟨hm, ?_⟩
    by_cases e : sk K P x = []
    ·rw [sk_nil hI e] at hm; cases hm
    ·obtain ⟨o1, o2⟩ := (one_false hI e).1 h1
     rcases (kid_par hI hm (by omega)).2.2.2 with z | z
     ·exact z
     ·omega
 ·rw [e1]; exact List.mem_append_left _ h.top
theorem CI.len {D T : List Int} {s : Nat} (h : CI K P D T s) : D.length + T.length ≤ K.length + 1 := by
 rw [← List.length_append]
 refine pigeon h.nd fun x hx => ?_
 rcases h.el x hx with e | ⟨e, f, _⟩ <;> omega
theorem CI.done {D : List Int} {s : Nat} (h : CI K P D [] s) : LP K P (-1) s := by
 have hn := hI.1
 have hb := h.bit
 have he := h.el
 have ht := h.top
 rw [List.append_nil] at hb he ht
 refine ⟨fun j hj => ?_, h.hel (-1) ht, fun j hj => h.hel _ ((hb j).1 hj)⟩
 rcases he _ ((hb j).1 hj) with e | ⟨_, e1, e2, e3⟩
 ·omega
 ·rw [rd_nat] at e2 e3
  refine ⟨by omega, by omega, Un.top hI.tree (j + 1) (j : Int) (by omega) (by omega) (by omega), e2, ?_⟩
  rcases he _ e3 with f | ⟨f1, f2, _⟩
  ·exact .inl f
  ·exact .inr ⟨f1, (hb _).2 (by rw [show (((P.getD j 0).toNat : Nat) : Int) = P.getD j 0 by omega]; exact e3)⟩
theorem CI.lt {D T : List Int} {s : Nat} (h : CI K P D T s) : s < 2 ^ K.length := by
 refine Nat.lt_pow_two_of_testBit s (fun i hi => eq_false_of_ne_true fun hb => ?_)
 rcases h.el _ ((h.bit i).1 hb) with e | ⟨_, e, _⟩ <;> omega
end
end Go.Proofs.Ytnomeokicfpidaa.M
