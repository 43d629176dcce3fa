-- merged and slimmed by slim.py (a program of this repo)
import Derived.Test.YtnomeokicfpidaaKEnterBack0
import Derived.Test.YtnomeokicfpidaaKEnterBack1
import Derived.Test.YtnomeokicfpidaaKEnterBack3
import Derived.Test.YtnomeokicfpidaaKEnterBack5
import Derived.Test.YtnomeokicfpidaaKEnterBack6
import Derived.Test.YtnomeokicfpidaaKEnterBack7
import Derived.Test.YtnomeokicfpidaaKEnterBack8
import Derived.Test.YtnomeokicfpidaaKEnterBack10
namespace Go.Proofs.Ytnomeokicfpidaa.Q
open Go.RowKit Go.Proofs.YtnomeokicfpidaaW.PrintWords Go.Proofs.YtnomeokicfpidaaW.PrintLast Go.Proofs.YtnomeokicfpidaaW.PrintMore
attribute [local go_sem] max2_int min2_int max_two min_two max_three min_three max_four min_four
set_option linter.unusedVariables false
set_option linter.unusedSimpArgs false
mutual
def imprimaturlaw07_EnterBack.l0 : Nat → Int → List (List Int) → Int → List Int → Int → Int → List Int → List Int → List Int → List Int → Option (Bool)
 | 0, _, _, _, _, _, _, _, _, _, _ => none
 | k + 1, x2, x3, x11, x12, x32, x33, x114000, x114001, x115000, x115001 => if x33 < x32 then (if 0 ≤ x33 then (if x33 < (x114000.length : Int) then (if (rd x114000 x33) ≥ 3 then (if x33 < (x114001.length : Int) then (if 0 ≤ (IntKind.u64.wrap (rd x114001 x33)) then (if (Go.bits .and .u32 (shr .u32 x11 (IntKind.u64.wrap (rd x114001 x33))) 1) = 1 then (if x12.length < 17592186044416 then (imprimaturlaw07_EnterBack.l0 k x2 x3 x11 (x12 ++ [x33]) x32 (wrap64 (x33 + 1)) x114000 x114001 x115000 x115001) else (none)) else (imprimaturlaw07_EnterBack.l0 k x2 x3 x11 x12 x32 (wrap64 (x33 + 1)) x114000 x114001 x115000 x115001)) else (none)) else (none)) else (imprimaturlaw07_EnterBack.l0 k x2 x3 x11 x12 x32 (wrap64 (x33 + 1)) x114000 x114001 x115000 x115001)) else (none)) else (none)) else (if (x12.length : Int) = 0 then ((imprimaturlaw07_wakes.f k).bind fun t121 => (some t121)) else ((imprimaturkeep_Within.f x2 (x12.length : Int)).bind fun t122 => (if 0 ≤ t122 then (if t122 < (x12.length : Int) then (if 0 ≤ (rd x12 t122) then (if (rd x12 t122) < (x114001.length : Int) then ((enter_Leave.f k x114000 x114001 x11 (-1)).bind fun t125 => ((imprimaturlaw07_Past.f k x115000 x115001 x3).bind fun t128 => ((enter_Remember.f k x114000 x114001 x11 t125 t128).bind fun t131 => (if (t131.length : Int) = (x114000.length : Int) then ((imprimaturlaw07_bits.f k t125).bind fun t134 => (imprimaturlaw07_EnterBack.j1 k x11 (rd x12 t122) (rd x114001 (rd x12 t122)) t131 (t134 != x11) x114000 x114001)) else (imprimaturlaw07_EnterBack.j1 k x11 (rd x12 t122) (rd x114001 (rd x12 t122)) t131 true x114000 x114001))))) else (none)) else (none)) else (none)) else (none))))
def imprimaturlaw07_EnterBack.j1 : Nat → Int → Int → Int → List Int → Bool → List Int → List Int → Option (Bool)
 | 0, _, _, _, _, _, _, _ => none
 | k + 1, x11, x14, x15, x17, x96, x114000, x114001 => if x96 = true then (some false) else ((enter_Enter.f x114000 x114001 (-1) x14 x17).bind fun t135 => ((imprimaturlaw07_bits.f k t135).bind fun t138 => (imprimaturlaw07_EnterBack.l1 k x11 x14 x15 t138 (x114000.length : Int) 0 x114000 x114001)))
def imprimaturlaw07_EnterBack.l1 : Nat → Int → Int → Int → Int → Int → Int → List Int → List Int → Option (Bool)
 | 0, _, _, _, _, _, _, _, _ => none
 | k + 1, x11, x14, x15, x18, x104, x105, x114000, x114001 => if x105 < x104 then (if x105 = x15 then (imprimaturlaw07_EnterBack.j3 k x11 x14 x15 x18 x105 x104 x105 true x114000 x114001) else ((shape_Under.f k x114000 x114001 x105 x15).bind fun t140 => (imprimaturlaw07_EnterBack.j3 k x11 x14 x15 x18 x105 x104 x105 (!t140) x114000 x114001))) else (if 0 ≤ (IntKind.u64.wrap (x15)) then (if (Go.bits .and .u32 (shr .u32 x18 (IntKind.u64.wrap (x15))) 1) = 1 then ((imprimaturlaw07_wakes.f k).bind fun t139 => (some t139)) else (some false)) else (none))
def imprimaturlaw07_EnterBack.j3 : Nat → Int → Int → Int → Int → Int → Int → Int → Bool → List Int → List Int → Option (Bool)
 | 0, _, _, _, _, _, _, _, _, _, _ => none
 | k + 1, x11, x14, x15, x18, x19, x104, x105, x117, x114000, x114001 => if x117 = true then (imprimaturlaw07_EnterBack.l1 k x11 x14 x15 x18 x104 (wrap64 (x105 + 1)) x114000 x114001) else (if 0 ≤ (IntKind.u64.wrap (x19)) then (if 0 ≤ x14 then (if x14 < (x114000.length : Int) then (if (rd x114000 x14) = 4 then (if (Go.bits .and .u32 (shr .u32 x11 (IntKind.u64.wrap (x19))) 1) = (Go.bits .and .u32 (shr .u32 x18 (IntKind.u64.wrap (x19))) 1) then (if 0 ≤ x19 then (if x19 < (x114001.length : Int) then (if (rd x114001 x19) = x15 then (imprimaturlaw07_EnterBack.l1 k x11 x14 x15 x18 x104 (wrap64 (x105 + 1)) x114000 x114001) else (imprimaturlaw07_EnterBack.l1 k x11 x14 x15 x18 x104 (wrap64 (x105 + 1)) x114000 x114001)) else (none)) else (none)) else (some false)) else (if 0 ≤ x19 then (if x19 < (x114001.length : Int) then (if (rd x114001 x19) = x15 then (if (Go.bits .and .u32 (shr .u32 x11 (IntKind.u64.wrap (x19))) 1) = (Go.bits .and .u32 (shr .u32 x18 (IntKind.u64.wrap (x19))) 1) then (imprimaturlaw07_EnterBack.l1 k x11 x14 x15 x18 x104 (wrap64 (x105 + 1)) x114000 x114001) else (some false)) else (imprimaturlaw07_EnterBack.l1 k x11 x14 x15 x18 x104 (wrap64 (x105 + 1)) x114000 x114001)) else (none)) else (none))) else (none)) else (none)) else (none))
end
def imprimaturlaw07_EnterBack.f (k : Nat) (l0 : List Int) (l1 : List Int) (a2 : Int) (l3 : List (List Int)) : Option (Bool) := (imprimaturlaw06_Of.f k l0).bind fun bt101 => ((imprimaturlaw06_Config.f k bt101.2.2.1 bt101.2.2.2 l1).bind fun t115 => (imprimaturlaw07_EnterBack.l0 k a2 l3 t115 ([] : List Int) (bt101.1.length : Int) 0 bt101.1 bt101.2.1 bt101.2.2.1 bt101.2.2.2))
def imprimaturlaw07_EnterBack.T15 : Bool × List (List Nat × List Nat) := (true, [([], []), ([], []), ([], []), ([], []), ([], []), ([3, 4], [3, 4]), ([0, 1, 2, 5, 5], [0, 1, 2, 5]), ([6, 6, 0, 1, 2, 3, 4, 5, 6], [6])])
def imprimaturlaw07_EnterBack.B15 : List Nat := [0, 0, 0, 0, 0, 24, 63, 127]
theorem imprimaturlaw07_EnterBack.tab15 : rtab .any (opsOf Try.f11 15) = imprimaturlaw07_EnterBack.T15 := by kernel_rfl
theorem imprimaturlaw07_EnterBack.bits15 : waitsOk imprimaturlaw07_EnterBack.T15.2 imprimaturlaw07_EnterBack.B15 = true := by kernel_rfl
set_option maxHeartbeats 8000000 in
set_option maxRecDepth 100000 in
theorem imprimaturlaw07_EnterBack.calls (k : Nat) (A0 : Option Addr) (c0 : Nat) (l0 : List Int) (A1 : Option Addr) (c1 : Nat) (l1 : List Int) (a2 : Int) (A3 : Option Addr) (c3 : Nat) (l3 : List (List Int)) (r : Bool) (w : World) (hr0 : Kd.C (Kd.int .i64) w A0 l0.length l0) (hc0 : l0.length ≤ c0) (hr1 : Kd.C (Kd.int .i64) w A1 l1.length l1) (hc1 : l1.length ≤ c1) (hr3 : Kd.C (Kd.slice 3 (Kd.int .i64)) w A3 l3.length l3) (hc3 : l3.length ≤ c3) (h : imprimaturlaw07_EnterBack.f k l0 l1 a2 l3 = some r) :
  Calls Try.prog 11 #[.slice A0 l0.length c0, .slice A1 l1.length c1, .int .i64 a2, .slice A3 l3.length c3] w fun e w' => e = .returned (.bool r) ∧ Below w.heap.size w w' := by
 have hu24 := Try.underlying24
 have hu25 := Try.underlying25
 have HR0 := Aside0.mk hr0
 have HC0 := Aside0.mk hc0
 clear hr0 hc0
 have HR1 := Aside0.mk hr1
 have HC1 := Aside0.mk hc1
 clear hr1 hc1
 have HR3 := Aside0.mk hr3
 have HC3 := Aside0.mk hc3
 clear hr3 hc3
 have HB := Aside0.mk (Below.refl w.heap.size w)
 have H : ((imprimaturlaw06_Of.f k l0).bind fun bt101 => ((imprimaturlaw06_Config.f k bt101.2.2.1 bt101.2.2.2 l1).bind fun t115 => (imprimaturlaw07_EnterBack.l0 k a2 l3 t115 ([] : List Int) (bt101.1.length : Int) 0 bt101.1 bt101.2.1 bt101.2.2.1 bt101.2.2.2))) = some r := h
 clear h
 replace H := Option.bind_eq_some_iff.mp H
 obtain ⟨⟨t101, t104, t107, t110⟩, A50, H⟩ := H
 replace H : ((imprimaturlaw06_Config.f k t107 t110 l1).bind fun t115 => (imprimaturlaw07_EnterBack.l0 k a2 l3 t115 ([] : List Int) (t101.length : Int) 0 t101 t104 t107 t110)) = some r := H
 have A5 := Aside0.mk A50
 clear A50
 replace H := Option.bind_eq_some_iff.mp H
 obtain ⟨t115, A60, H⟩ := H
 replace H : (imprimaturlaw07_EnterBack.l0 k a2 l3 t115 ([] : List Int) (t101.length : Int) 0 t101 t104 t107 t110) = some r := H
 have A6 := Aside0.mk A60
 clear A60
 have H' := Aside0.mk H
 clear H
 go_enter Try.func11, Try.ntmps11
 go_wp2_with (first | ((with_reducible refine gate_callee (f := 13) rfl ?_); refine goesL_ (some 24) rfl rfl Try.func13 (by kernel_rfl) rfl #[.slice A0 l0.length c0] rfl (by (try simp only [List.map_toArray, List.map_cons, List.map_nil]); first | done | rfl | (simp only [List.length_drop, List.length_take]; rfl)) ?_; (with_reducible refine (imprimaturlaw06_Of.calls k _ _ l0 t101 t104 t107 t110 _ ?side1 ?side2 A5.out).mono ?_); (case side1 => repeat (first | exact HR0.out | (with_reducible refine Kd.C_alloc ?_ _) | (with_reducible refine Kd.C_drewN ?_ _) | (with_reducible refine Kd.C_drew ?_))); (case side2 => exact HC0.out); rintro e w7 ⟨v102, v105, v108, v111, rfl, ho0, ho1, ho2, ho3, hb⟩; refine ⟨_, rfl, ?_⟩; have n0_ := Aside0.mk (Kd.R_lower ho0 (below_size (by repeat (first | (with_reducible first | exact HB.out | apply below_alloc | apply pw_below_drewN | apply below_drew1) | exact HB.out)))); have n1_ := Aside0.mk (Kd.R_lower ho1 (below_size (by repeat (first | (with_reducible first | exact HB.out | apply below_alloc | apply pw_below_drewN | apply below_drew1) | exact HB.out)))); have n2_ := Aside0.mk (Kd.R_lower ho2 (below_size (by repeat (first | (with_reducible first | exact HB.out | apply below_alloc | apply pw_below_drewN | apply below_drew1) | exact HB.out)))); have n3_ := Aside0.mk (Kd.R_lower ho3 (below_size (by repeat (first | (with_reducible first | exact HB.out | apply below_alloc | apply pw_below_drewN | apply below_drew1) | exact HB.out)))); have n4_ := Aside0.mk (below_step (by repeat (first | (with_reducible first | exact HB.out | apply below_alloc | apply pw_below_drewN | apply below_drew1) | exact HB.out)) hb); clear HB; have HO103 := n0_; have HO106 := n1_; have HO109 := n2_; have HO112 := n3_; have HB := n4_; clear n0_ n1_ n2_ n3_ n4_; (try clear hb); (try clear hb2); (try clear hk); (try clear hi); (try clear ho0); (try clear ho1); (try clear ho2); (try clear ho3)) | ((with_reducible refine gate_dst (N := 9) rfl ?_); refine box_event ?hg (N := 9) ?hd (cs := #[.slice none 0 0, .slice none 0 0]) (t := 24) ?hr ?_; (case hd => rfl); (case hg => rfl); (case hr => first | (go_simp; done) | (go_simp; rfl)); intro gb113 hg w8 hbox hb; have n0_ := Aside0.mk (Kd.R_below (by (with_reducible repeat (first | apply Kd.R_alloc | apply Kd.R_drewN | apply Kd.R_drew)); exact HO103.out) hb); have n1_ := Aside0.mk (Kd.R_below (by (with_reducible repeat (first | apply Kd.R_alloc | apply Kd.R_drewN | apply Kd.R_drew)); exact HO106.out) hb); have n2_ := Aside0.mk (Kd.R_below (by (with_reducible repeat (first | apply Kd.R_alloc | apply Kd.R_drewN | apply Kd.R_drew)); exact HO109.out) hb); have n3_ := Aside0.mk (Kd.R_below (by (with_reducible repeat (first | apply Kd.R_alloc | apply Kd.R_drewN | apply Kd.R_drew)); exact HO112.out) hb); have n4_ := Aside0.mk (below_step (by repeat (first | (with_reducible first | exact HB.out | apply below_alloc | apply pw_below_drewN | apply below_drew1) | exact HB.out)) hb); have n5_ := Aside0.mk (hbox); have n6_ := Aside0.mk ((by rw [hg]; exact (below_size (by repeat (first | (with_reducible first | exact HB.out | apply below_alloc | apply pw_below_drewN | apply below_drew1) | exact HB.out))) : w.heap.size ≤ gb113)); have n7_ := Aside0.mk ((by rw [hg]; exact (below_size (by repeat (first | (with_reducible first | exact HB.out | apply below_alloc | apply pw_below_drewN | apply below_drew1) | exact HB.out))) : w.heap.size ≤ gb113)); clear HO103; clear HO106; clear HO109; clear HO112; clear HB; have HO103 := n0_; have HO106 := n1_; have HO109 := n2_; have HO112 := n3_; have HB := n4_; have BK113 := n5_; have GW113 := n6_; have GE113 := n7_; clear n0_ n1_ n2_ n3_ n4_ n5_ n6_ n7_; clear hb hbox hg) | ((with_reducible refine gate_dst (N := 10) rfl ?_); refine box_event ?hg (N := 10) ?hd (cs := #[.slice none 0 0, .slice none 0 0]) (t := 25) ?hr ?_; (case hd => rfl); (case hg => rfl); (case hr => first | (go_simp; done) | (go_simp; rfl)); intro gb114 hg w9 hbox hb; have n0_ := Aside0.mk (Kd.R_below (by (with_reducible repeat (first | apply Kd.R_alloc | apply Kd.R_drewN | apply Kd.R_drew)); exact HO103.out) hb); have n1_ := Aside0.mk (Kd.R_below (by (with_reducible repeat (first | apply Kd.R_alloc | apply Kd.R_drewN | apply Kd.R_drew)); exact HO106.out) hb); have n2_ := Aside0.mk (Kd.R_below (by (with_reducible repeat (first | apply Kd.R_alloc | apply Kd.R_drewN | apply Kd.R_drew)); exact HO109.out) hb); have n3_ := Aside0.mk (Kd.R_below (by (with_reducible repeat (first | apply Kd.R_alloc | apply Kd.R_drewN | apply Kd.R_drew)); exact HO112.out) hb); have n4_ := Aside0.mk (blk_below (g := gb113) (o := .cells #[.slice none 0 0, .slice none 0 0] 24 (0, 0)) (by (with_reducible repeat (first | refine blk_drewN ?_ _ | refine blk_drew ?_ | refine blk_alloc ?_ _)); exact BK113.out) hb); have n5_ := Aside0.mk (below_step (by repeat (first | (with_reducible first | exact HB.out | apply below_alloc | apply pw_below_drewN | apply below_drew1 | refine below_set ?_ GE113.out) | exact HB.out)) hb); have n6_ := Aside0.mk (hbox); have n7_ := Aside0.mk ((by rw [hg]; exact (below_size (by repeat (first | (with_reducible first | exact HB.out | apply below_alloc | apply pw_below_drewN | apply below_drew1 | refine below_set ?_ GE113.out) | exact HB.out))) : w.heap.size ≤ gb114)); have n8_ := Aside0.mk ((by rw [hg]; exact (below_size (by repeat (first | (with_reducible first | exact HB.out | apply below_alloc | apply pw_below_drewN | apply below_drew1 | refine below_set ?_ GE113.out) | exact HB.out))) : w.heap.size ≤ gb114)); have n9_ := Aside0.mk ((by rw [hg]; exact Nat.ne_of_lt (blk_lt (g := gb113) (o := .cells #[.slice none 0 0, .slice none 0 0] 24 (0, 0)) (by (with_reducible repeat (first | refine blk_drewN ?_ _ | refine blk_drew ?_ | refine blk_alloc ?_ _)); exact BK113.out)) : gb113 ≠ gb114)); have n10_ := Aside0.mk ((by rw [hg]; exact Nat.ne_of_gt (blk_lt (g := gb113) (o := .cells #[.slice none 0 0, .slice none 0 0] 24 (0, 0)) (by (with_reducible repeat (first | refine blk_drewN ?_ _ | refine blk_drew ?_ | refine blk_alloc ?_ _)); exact BK113.out)) : gb114 ≠ gb113)); clear HO103; clear HO106; clear HO109; clear HO112; clear BK113; clear HB; have HO103 := n0_; have HO106 := n1_; have HO109 := n2_; have HO112 := n3_; have BK113 := n4_; have HB := n5_; have BK114 := n6_; have GW114 := n7_; have GE114 := n8_; have NB113_114 := n9_; have NB114_113 := n10_; clear n0_ n1_ n2_ n3_ n4_ n5_ n6_ n7_ n8_ n9_ n10_; clear hb hbox hg; obtain ⟨Ao10, co10, eo10⟩ := Kd.R_slice HO103.out; subst eo10; have hnb11 := NB113_114.out; have hnc11 := NB114_113.out; have hcz12_0 : w9.cell? ⟨gb113, 0, none⟩ = some (.slice none 0 0) := (blk_cell BK113.out 0).trans rfl; have hcz12_1 : w9.cell? ⟨gb113, 1, none⟩ = some (.slice none 0 0) := (blk_cell BK113.out 1).trans rfl; have hfz12_0 := blk_frozen BK113.out 0; have hfz12_1 := blk_frozen BK113.out 1; obtain ⟨Ao13, co13, eo13⟩ := Kd.R_slice HO106.out; subst eo13; obtain ⟨Ao14, co14, eo14⟩ := Kd.R_slice HO109.out; subst eo14; have hcz15_0 : w9.cell? ⟨gb114, 0, none⟩ = some (.slice none 0 0) := (blk_cell BK114.out 0).trans rfl; have hcz15_1 : w9.cell? ⟨gb114, 1, none⟩ = some (.slice none 0 0) := (blk_cell BK114.out 1).trans rfl; have hfz15_0 := blk_frozen BK114.out 0; have hfz15_1 := blk_frozen BK114.out 1; obtain ⟨Ao16, co16, eo16⟩ := Kd.R_slice HO112.out; subst eo16) | ((with_reducible refine gate_callee (f := 18) rfl ?_); refine goesL_ (some 29) rfl rfl Try.func18 (by kernel_rfl) rfl #[.agg #[.slice Ao14 t107.length co14, .slice Ao16 t110.length co16], .slice A1 l1.length c1] rfl (by (try simp only [List.map_toArray, List.map_cons, List.map_nil]); first | done | rfl | (simp only [List.length_drop, List.length_take]; rfl)) ?_; (with_reducible refine (imprimaturlaw06_Config.calls k _ _ t107 _ _ t110 _ _ l1 t115 _ ?side1 ?side2 ?side3 ?side4 ?side5 ?side6 A6.out).mono ?_); (case side1 => refine (Kd.R_reads' (e := 3) (base := w.heap.size) (ok := fun k_ => (some k_ ≠ (.slice Ao10 t101.length co10 : Value).ownBlock ∧ (some k_ ≠ (.slice Ao13 t104.length co13 : Value).ownBlock ∧ some k_ ≠ (.slice Ao16 t110.length co16 : Value).ownBlock))) (n := t107.length) (c := co14) ?_).2.2; exact (by (with_reducible repeat (first | apply Kd.R_alloc | apply Kd.R_drewN | apply Kd.R_drew)); exact (Kd.R_mono (Kd.R_mono (Kd.R_far (p := ⟨gb114, 1, none⟩) (Kd.R_far (p := ⟨gb114, 0, none⟩) (Kd.R_far (p := ⟨gb113, 1, none⟩) (Kd.R_far (p := ⟨gb113, 0, none⟩) (Kd.R_types (Kd.R_types HO109.out BK113.out (by decide)) BK114.out (by decide)) (fun _ hk => hk.1.2) (.slice Ao10 t101.length co10)) (fun _ hk => hk.1.2) (.slice Ao13 t104.length co13)) (fun _ hk => hk.2) (.slice Ao14 t107.length co14)) (fun _ hk => hk.2) (.slice Ao16 t110.length co16)) (fun _ h_ => h_.1)) (fun _ h_ => h_.1)))); (case side2 => exact (Kd.R_reads' HO109.out).2.1); (case side3 => refine (Kd.R_reads' (e := 3) (base := w.heap.size) (ok := fun k_ => (some k_ ≠ (.slice Ao10 t101.length co10 : Value).ownBlock ∧ (some k_ ≠ (.slice Ao13 t104.length co13 : Value).ownBlock ∧ some k_ ≠ (.slice Ao14 t107.length co14 : Value).ownBlock))) (n := t110.length) (c := co16) ?_).2.2; exact (by (with_reducible repeat (first | apply Kd.R_alloc | apply Kd.R_drewN | apply Kd.R_drew)); exact (Kd.R_mono (Kd.R_mono (Kd.R_far (p := ⟨gb114, 1, none⟩) (Kd.R_far (p := ⟨gb114, 0, none⟩) (Kd.R_far (p := ⟨gb113, 1, none⟩) (Kd.R_far (p := ⟨gb113, 0, none⟩) (Kd.R_types (Kd.R_types HO112.out BK113.out (by decide)) BK114.out (by decide)) (fun _ hk => hk.1.2) (.slice Ao10 t101.length co10)) (fun _ hk => hk.1.2) (.slice Ao13 t104.length co13)) (fun _ hk => hk.2) (.slice Ao14 t107.length co14)) (fun _ hk => hk.2) (.slice Ao16 t110.length co16)) (fun _ h_ => h_.1)) (fun _ h_ => h_.1)))); (case side4 => exact (Kd.R_reads' HO112.out).2.1); (case side5 => exact Kd.C_below HR1.out (by repeat (first | (with_reducible first | exact HB.out | apply below_alloc | apply pw_below_drewN | apply below_drew1 | refine below_set ?_ GE113.out | refine below_set ?_ GE114.out) | exact HB.out))); (case side6 => exact HC1.out); rintro e w17 ⟨rfl, hb⟩; refine ⟨_, rfl, ?_⟩; have n0_ := Aside0.mk (Kd.R_below (by (with_reducible repeat (first | apply Kd.R_alloc | apply Kd.R_drewN | apply Kd.R_drew)); exact (Kd.R_mono (Kd.R_mono (Kd.R_far (p := ⟨gb114, 1, none⟩) (Kd.R_far (p := ⟨gb114, 0, none⟩) (Kd.R_far (p := ⟨gb113, 1, none⟩) (Kd.R_far (p := ⟨gb113, 0, none⟩) (Kd.R_types (Kd.R_types HO103.out BK113.out (by decide)) BK114.out (by decide)) (fun _ hk => hk.1.2) (.slice Ao10 t101.length co10)) (fun _ hk => hk.1.2) (.slice Ao13 t104.length co13)) (fun _ hk => hk.2) (.slice Ao14 t107.length co14)) (fun _ hk => hk.2) (.slice Ao16 t110.length co16)) (fun _ h_ => h_.1)) (fun _ h_ => h_.1))) hb); have n1_ := Aside0.mk (Kd.R_below (by (with_reducible repeat (first | apply Kd.R_alloc | apply Kd.R_drewN | apply Kd.R_drew)); exact (Kd.R_mono (Kd.R_mono (Kd.R_far (p := ⟨gb114, 1, none⟩) (Kd.R_far (p := ⟨gb114, 0, none⟩) (Kd.R_far (p := ⟨gb113, 1, none⟩) (Kd.R_far (p := ⟨gb113, 0, none⟩) (Kd.R_types (Kd.R_types HO106.out BK113.out (by decide)) BK114.out (by decide)) (fun _ hk => hk.1.2) (.slice Ao10 t101.length co10)) (fun _ hk => hk.1.2) (.slice Ao13 t104.length co13)) (fun _ hk => hk.2) (.slice Ao14 t107.length co14)) (fun _ hk => hk.2) (.slice Ao16 t110.length co16)) (fun _ h_ => h_.1)) (fun _ h_ => h_.1))) hb); have n2_ := Aside0.mk (Kd.R_below (by (with_reducible repeat (first | apply Kd.R_alloc | apply Kd.R_drewN | apply Kd.R_drew)); exact (Kd.R_mono (Kd.R_mono (Kd.R_far (p := ⟨gb114, 1, none⟩) (Kd.R_far (p := ⟨gb114, 0, none⟩) (Kd.R_far (p := ⟨gb113, 1, none⟩) (Kd.R_far (p := ⟨gb113, 0, none⟩) (Kd.R_types (Kd.R_types HO109.out BK113.out (by decide)) BK114.out (by decide)) (fun _ hk => hk.1.2) (.slice Ao10 t101.length co10)) (fun _ hk => hk.1.2) (.slice Ao13 t104.length co13)) (fun _ hk => hk.2) (.slice Ao14 t107.length co14)) (fun _ hk => hk.2) (.slice Ao16 t110.length co16)) (fun _ h_ => h_.1)) (fun _ h_ => h_.1))) hb); have n3_ := Aside0.mk (Kd.R_below (by (with_reducible repeat (first | apply Kd.R_alloc | apply Kd.R_drewN | apply Kd.R_drew)); exact (Kd.R_mono (Kd.R_mono (Kd.R_far (p := ⟨gb114, 1, none⟩) (Kd.R_far (p := ⟨gb114, 0, none⟩) (Kd.R_far (p := ⟨gb113, 1, none⟩) (Kd.R_far (p := ⟨gb113, 0, none⟩) (Kd.R_types (Kd.R_types HO112.out BK113.out (by decide)) BK114.out (by decide)) (fun _ hk => hk.1.2) (.slice Ao10 t101.length co10)) (fun _ hk => hk.1.2) (.slice Ao13 t104.length co13)) (fun _ hk => hk.2) (.slice Ao14 t107.length co14)) (fun _ hk => hk.2) (.slice Ao16 t110.length co16)) (fun _ h_ => h_.1)) (fun _ h_ => h_.1))) hb); have n4_ := Aside0.mk (blk_below (g := gb113) (o := .cells #[.slice Ao10 t101.length co10, .slice Ao13 t104.length co13] 24 (0, 0)) (by (with_reducible repeat (first | refine blk_drewN ?_ _ | refine blk_drew ?_ | refine blk_alloc ?_ _)); refine blk_far ?_ NB113_114.out _; (with_reducible repeat (first | refine blk_drewN ?_ _ | refine blk_drew ?_ | refine blk_alloc ?_ _)); refine blk_far ?_ NB113_114.out _; (with_reducible repeat (first | refine blk_drewN ?_ _ | refine blk_drew ?_ | refine blk_alloc ?_ _)); refine blk_put (cs := #[.slice Ao10 t101.length co10, .slice none 0 0]) ?_ 1 _ rfl; (with_reducible repeat (first | refine blk_drewN ?_ _ | refine blk_drew ?_ | refine blk_alloc ?_ _)); refine blk_put (cs := #[.slice none 0 0, .slice none 0 0]) ?_ 0 _ rfl; (with_reducible repeat (first | refine blk_drewN ?_ _ | refine blk_drew ?_ | refine blk_alloc ?_ _)); exact BK113.out) hb); have n5_ := Aside0.mk (blk_below (g := gb114) (o := .cells #[.slice Ao14 t107.length co14, .slice Ao16 t110.length co16] 25 (0, 0)) (by (with_reducible repeat (first | refine blk_drewN ?_ _ | refine blk_drew ?_ | refine blk_alloc ?_ _)); refine blk_put (cs := #[.slice Ao14 t107.length co14, .slice none 0 0]) ?_ 1 _ rfl; (with_reducible repeat (first | refine blk_drewN ?_ _ | refine blk_drew ?_ | refine blk_alloc ?_ _)); refine blk_put (cs := #[.slice none 0 0, .slice none 0 0]) ?_ 0 _ rfl; (with_reducible repeat (first | refine blk_drewN ?_ _ | refine blk_drew ?_ | refine blk_alloc ?_ _)); refine blk_far ?_ NB114_113.out _; (with_reducible repeat (first | refine blk_drewN ?_ _ | refine blk_drew ?_ | refine blk_alloc ?_ _)); refine blk_far ?_ NB114_113.out _; (with_reducible repeat (first | refine blk_drewN ?_ _ | refine blk_drew ?_ | refine blk_alloc ?_ _)); exact BK114.out) hb); have n6_ := Aside0.mk (below_step (by repeat (first | (with_reducible first | exact HB.out | apply below_alloc | apply pw_below_drewN | apply below_drew1 | refine below_set ?_ GE113.out | refine below_set ?_ GE114.out) | exact HB.out)) hb); clear HO103; clear HO106; clear HO109; clear HO112; clear BK113; clear BK114; clear HB; have HO103 := n0_; have HO106 := n1_; have HO109 := n2_; have HO112 := n3_; have BK113 := n4_; have BK114 := n5_; have HB := n6_; clear n0_ n1_ n2_ n3_ n4_ n5_ n6_; (try clear hb); (try clear hb2); (try clear hk); (try clear hi); have hcz18_0 : w17.cell? ⟨gb113, 0, none⟩ = some (.slice Ao10 t101.length co10) := (blk_cell BK113.out 0).trans rfl; have hcz18_1 : w17.cell? ⟨gb113, 1, none⟩ = some (.slice Ao13 t104.length co13) := (blk_cell BK113.out 1).trans rfl; have hfz18_0 := blk_frozen BK113.out 0; have hfz18_1 := blk_frozen BK113.out 1))
 go_loopg [12, 33] k (fun kq v12 v33 w' => ∃ (x12_1 : List Int) (x33_1 : Int), v33 = .int .i64 x33_1 ∧ Aside0 (imprimaturlaw07_EnterBack.l0 kq a2 l3 t115 x12_1 (t101.length : Int) x33_1 t101 t104 t107 t110 = some r) ∧ Aside0 (kq ≤ k) ∧ Aside0 (Kd.R (Kd.int .i64) 3 w' w.heap.size (fun k_ => some k_ ≠ ((.slice Ao10 t101.length co10) : Value).ownBlock ∧ some k_ ≠ ((.slice Ao13 t104.length co13) : Value).ownBlock ∧ some k_ ≠ ((.slice Ao14 t107.length co14) : Value).ownBlock ∧ some k_ ≠ ((.slice Ao16 t110.length co16) : Value).ownBlock) v12 x12_1) ∧ Aside0 (Kd.R (Kd.int .i64) 3 w' w.heap.size (fun k_ => some k_ ≠ (v12 : Value).ownBlock ∧ some k_ ≠ ((.slice Ao13 t104.length co13) : Value).ownBlock ∧ some k_ ≠ ((.slice Ao14 t107.length co14) : Value).ownBlock ∧ some k_ ≠ ((.slice Ao16 t110.length co16) : Value).ownBlock) (.slice Ao10 t101.length co10) t101) ∧ Aside0 (Kd.R (Kd.int .i64) 3 w' w.heap.size (fun k_ => some k_ ≠ (v12 : Value).ownBlock ∧ some k_ ≠ ((.slice Ao10 t101.length co10) : Value).ownBlock ∧ some k_ ≠ ((.slice Ao14 t107.length co14) : Value).ownBlock ∧ some k_ ≠ ((.slice Ao16 t110.length co16) : Value).ownBlock) (.slice Ao13 t104.length co13) t104) ∧ Aside0 (Kd.R (Kd.int .i64) 3 w' w.heap.size (fun k_ => some k_ ≠ (v12 : Value).ownBlock ∧ some k_ ≠ ((.slice Ao10 t101.length co10) : Value).ownBlock ∧ some k_ ≠ ((.slice Ao13 t104.length co13) : Value).ownBlock ∧ some k_ ≠ ((.slice Ao16 t110.length co16) : Value).ownBlock) (.slice Ao14 t107.length co14) t107) ∧ Aside0 (Kd.R (Kd.int .i64) 3 w' w.heap.size (fun k_ => some k_ ≠ (v12 : Value).ownBlock ∧ some k_ ≠ ((.slice Ao10 t101.length co10) : Value).ownBlock ∧ some k_ ≠ ((.slice Ao13 t104.length co13) : Value).ownBlock ∧ some k_ ≠ ((.slice Ao14 t107.length co14) : Value).ownBlock) (.slice Ao16 t110.length co16) t110) ∧ Aside0 (w'.heap[gb113]? = some (.cells #[(.slice Ao10 t101.length co10), (.slice Ao13 t104.length co13)] 24 (0, 0))) ∧ Aside0 (w'.heap[gb114]? = some (.cells #[(.slice Ao14 t107.length co14), (.slice Ao16 t110.length co16)] 25 (0, 0))) ∧ Aside0 (Below w.heap.size w w'))
 case atStart => exact ⟨(([] : List Int)), (0), (by first | rfl | (simp; done) | (simp [*]; done)), H', ⟨Nat.le_refl _⟩, ⟨by first | exact Kd.R_nil _ _ _ _ _ | exact Kd.N_nil _ _ _ _ _ | exact Kd.V_nil _ _ _ _ _ | exact Kd.Q_nil _ _ _ _ _ | exact Kd.S_nil _ _ _ _ _⟩, ⟨by (with_reducible repeat (first | apply Kd.R_alloc | apply Kd.R_drewN | apply Kd.R_drew)); exact Kd.R_mono HO103.out (fun _ hk => ⟨(by simp [Value.ownBlock]), ⟨hk.1, ⟨hk.2.1, hk.2.2⟩⟩⟩)⟩, ⟨by (with_reducible repeat (first | apply Kd.R_alloc | apply Kd.R_drewN | apply Kd.R_drew)); exact Kd.R_mono HO106.out (fun _ hk => ⟨(by simp [Value.ownBlock]), ⟨hk.1, ⟨hk.2.1, hk.2.2⟩⟩⟩)⟩, ⟨by (with_reducible repeat (first | apply Kd.R_alloc | apply Kd.R_drewN | apply Kd.R_drew)); exact Kd.R_mono HO109.out (fun _ hk => ⟨(by simp [Value.ownBlock]), ⟨hk.1, ⟨hk.2.1, hk.2.2⟩⟩⟩)⟩, ⟨by (with_reducible repeat (first | apply Kd.R_alloc | apply Kd.R_drewN | apply Kd.R_drew)); exact Kd.R_mono HO112.out (fun _ hk => ⟨(by simp [Value.ownBlock]), ⟨hk.1, ⟨hk.2.1, hk.2.2⟩⟩⟩)⟩, ⟨by (with_reducible repeat (first | refine blk_drewN ?_ _ | refine blk_drew ?_ | refine blk_alloc ?_ _)); exact BK113.out⟩, ⟨by (with_reducible repeat (first | refine blk_drewN ?_ _ | refine blk_drew ?_ | refine blk_alloc ?_ _)); exact BK114.out⟩, ⟨by repeat (first | (with_reducible first | exact HB.out | apply below_alloc | apply pw_below_drewN | apply below_drew1 | refine below_set ?_ GE113.out | refine below_set ?_ GE114.out) | exact HB.out)⟩⟩
 case round =>
  clear H'
  try clear c1
  try clear p2
  try clear c3
  try clear c11
  try clear c13
  try clear c18
  try clear hcz12_0
  try clear hcz12_1
  try clear hcz15_0
  try clear hcz15_1
  try clear hcz18_0
  try clear hcz18_1
  try clear hfz12_0
  try clear hfz12_1
  try clear hfz15_0
  try clear hfz15_1
  try clear hfz18_0
  try clear hfz18_1
  obtain ⟨x12_1, x33_1, rfl, HA, HK1, HO_12, HO_114000, HO_114001, HO_115000, HO_115001, BK113, BK114, HB⟩ := hrel
  cases gk with
  | zero => exact absurd HA.out (by simp [imprimaturlaw07_EnterBack.l0])
  | succ k1 =>
   have H := HA.out
   clear HA
   simp only [imprimaturlaw07_EnterBack.l0] at H
   by_cases c19 : x33_1 < (t101.length : Int)
   ·rw [if_pos c19] at H
    have c19b0 : decide (x33_1 < (t101.length : Int)) = true := decide_eq_true c19
    clear c19
    by_cases c20 : 0 ≤ x33_1
    ·rw [if_pos c20] at H
     have c20b0 : decide (0 ≤ x33_1) = true := decide_eq_true c20
     clear c20
     by_cases c21 : x33_1 < (t101.length : Int)
     ·rw [if_pos c21] at H
      have c21b0 : decide (x33_1 < (t101.length : Int)) = true := decide_eq_true c21
      clear c21
      by_cases c22 : (rd t101 x33_1) ≥ 3
      ·rw [if_pos c22] at H
       have c22b0 : decide (3 ≤ (rd t101 x33_1)) = true := decide_eq_true c22
       clear c22
       by_cases c23 : x33_1 < (t104.length : Int)
       ·rw [if_pos c23] at H
        have c23b0 : decide (x33_1 < (t104.length : Int)) = true := decide_eq_true c23
        clear c23
        obtain ⟨ji24, hji24⟩ : ∃ j_ : Int, (IntKind.u64.wrap (rd t104 x33_1)) = j_ := ⟨_, rfl⟩
        replace H : (if 0 ≤ (ji24) then (if (Go.bits .and .u32 (shr .u32 t115 (ji24)) 1) = 1 then (if x12_1.length < 17592186044416 then (imprimaturlaw07_EnterBack.l0 k1 a2 l3 t115 (x12_1 ++ [x33_1]) (t101.length : Int) (wrap64 (x33_1 + 1)) t101 t104 t107 t110) else (none)) else (imprimaturlaw07_EnterBack.l0 k1 a2 l3 t115 x12_1 (t101.length : Int) (wrap64 (x33_1 + 1)) t101 t104 t107 t110)) else (none)) = some r := by first | (rw [hji24] at H; exact H) | (simp only [hji24] at H ⊢; exact H)
        by_cases c25 : 0 ≤ (ji24)
        ·rw [if_pos c25] at H
         have c25b0 := eq_true c25
         have c25b1 : decide (0 ≤ (ji24)) = true := decide_eq_true c25
         clear c25
         obtain ⟨ji26, hji26⟩ : ∃ j_ : Int, (shr .u32 t115 (ji24)) = j_ := ⟨_, rfl⟩
         replace H : (if (Go.bits .and .u32 (ji26) 1) = 1 then (if x12_1.length < 17592186044416 then (imprimaturlaw07_EnterBack.l0 k1 a2 l3 t115 (x12_1 ++ [x33_1]) (t101.length : Int) (wrap64 (x33_1 + 1)) t101 t104 t107 t110) else (none)) else (imprimaturlaw07_EnterBack.l0 k1 a2 l3 t115 x12_1 (t101.length : Int) (wrap64 (x33_1 + 1)) t101 t104 t107 t110)) = some r := by first | (rw [hji26] at H; exact H) | (simp only [hji26] at H ⊢; exact H)
         have hji26_ : (t115 / 2 ^ min (ji24).toNat 32) = ji26 := hji26
         have hji26z : (ji24) ≤ 32 → (t115 / 2 ^ (ji24).toNat) = ji26 := shr_small hji26
         by_cases c27 : (Go.bits .and .u32 (ji26) 1) = 1
         ·rw [if_pos c27] at H
          have c27b0 : ((Go.bits .and .u32 (ji26) 1) == 1) = true := beq_iff_eq.mpr c27
          have c27b1 : ((Go.bits .and .u32 (ji26) 1) != 1) = false := bne_eq_false_iff_eq.mpr c27
          clear c27
          by_cases c28 : x12_1.length < 17592186044416
          ·rw [if_pos c28] at H
           have LMc28 := Aside0.mk c28
           clear c28
           obtain ⟨y118, hy118⟩ : ∃ y_ : List Int, y_ = (x12_1 ++ [x33_1]) := ⟨_, rfl⟩
           replace H : (imprimaturlaw07_EnterBack.l0 k1 a2 l3 t115 y118 (t101.length : Int) (wrap64 (x33_1 + 1)) t101 t104 t107 t110) = some r := by first | (rw [hy118]; with_reducible exact H) | (have H2_ := (Option.bind_some _ _).symm.trans H; rw [hy118]; with_reducible exact H2_) | (have H2_ := (Option.bind_some _ _).symm.trans H; with_reducible exact H2_) | with_reducible exact H | (rw [hy118]; exact H) | exact H
           have Ny118 := Aside0.mk hy118
           clear hy118
           have H' := Aside0.mk H
           clear H
           have hnb29 := NB113_114.out
           have hnc29 := NB114_113.out
           have hcz30_0 : wr.cell? ⟨gb113, 0, none⟩ = some (.slice Ao10 t101.length co10) := (blk_cell BK113.out 0).trans rfl
           have hcz30_1 : wr.cell? ⟨gb113, 1, none⟩ = some (.slice Ao13 t104.length co13) := (blk_cell BK113.out 1).trans rfl
           have hfz30_0 := blk_frozen BK113.out 0
           have hfz30_1 := blk_frozen BK113.out 1
           have p116 : 0 ≤ (x33_1 : Int) := of_decide_eq_true (by first | (with_reducible assumption) | assumption)
           have q116 : x33_1 < (t101.length : Int) := of_decide_eq_true (by first | (with_reducible assumption) | assumption)
           obtain ⟨ad116, e116, hx116_0⟩ := Kd.at_int (Kd.R_reads' HO_114000.out).2.2 x33_1 p116 q116
           cases e116
           replace p116 := eq_true p116
           replace q116 := eq_true q116
           have p117 : 0 ≤ (x33_1 : Int) := of_decide_eq_true (by first | (with_reducible assumption) | assumption)
           have q117 : x33_1 < (t104.length : Int) := of_decide_eq_true (by first | (with_reducible assumption) | assumption)
           obtain ⟨ad117, e117, hx117_0⟩ := Kd.at_int (Kd.R_reads' HO_114001.out).2.2 x33_1 p117 q117
           cases e117
           replace p117 := eq_true p117
           replace q117 := eq_true q117
           go_wp2_with (first | ((with_reducible refine gate_builtin (b := .append) (xs := #[.tmp 54, .tmp 56]) rfl ?_); at_builtin; refine Kd.R_append (Kd.int .i64) (w0 := w) w.heap.size rfl (.tmp 54) (.tmp 56) 22 3 (.int .i64 0) 8 rfl Try.underlying22 info3 rfl (by decide) (by omega) u12 x12_1 x33_1 [.int .i64 x33_1] (fun k_ => some k_ ≠ (.slice (some ad116) t101.length co10 : Value).ownBlock ∧ some k_ ≠ (.slice (some ad117) t104.length co13 : Value).ownBlock ∧ some k_ ≠ (.slice Ao14 t107.length co14 : Value).ownBlock ∧ some k_ ≠ (.slice Ao16 t110.length co16 : Value).ownBlock) (fun _ => False) rfl rfl ?aP (fun _ hk => hk.elim) ?aF ?aO ?aB ?aS ?aL ?_; (case aP => exact rfl); (case aB => exact (by repeat (first | (with_reducible first | exact HB.out | apply below_alloc | apply pw_below_drewN | apply below_drew1 | refine below_set ?_ GE113.out | refine below_set ?_ GE114.out) | exact HB.out))); (case aF => exact (fun k_ hk => ⟨Kd.fresh' (Kd.R_lt (by (with_reducible repeat (first | apply Kd.R_alloc | apply Kd.R_drewN | apply Kd.R_drew)); exact HO_114000.out)) k_ hk, Kd.fresh' (Kd.R_lt (by (with_reducible repeat (first | apply Kd.R_alloc | apply Kd.R_drewN | apply Kd.R_drew)); exact HO_114001.out)) k_ hk, Kd.fresh' (Kd.R_lt (by (with_reducible repeat (first | apply Kd.R_alloc | apply Kd.R_drewN | apply Kd.R_drew)); exact HO_115000.out)) k_ hk, Kd.fresh' (Kd.R_lt (by (with_reducible repeat (first | apply Kd.R_alloc | apply Kd.R_drewN | apply Kd.R_drew)); exact HO_115001.out)) k_ hk⟩)); (case aO => exact (by (with_reducible repeat (first | apply Kd.R_alloc | apply Kd.R_drewN | apply Kd.R_drew)); exact HO_12.out)); (case aS => exact (below_size (by repeat (first | (with_reducible first | exact HB.out | apply below_alloc | apply pw_below_drewN | apply below_drew1 | refine below_set ?_ GE113.out | refine below_set ?_ GE114.out) | exact HB.out)))); (case aL => have := LMc28.out; omega); intro v119 w31 ho hb hg hat; rw [← Ny118.out] at ho; have n0_ := Aside0.mk (Kd.R_after (ok := (fun k_ => some k_ ≠ (.slice (some ad117) t104.length co13 : Value).ownBlock ∧ some k_ ≠ (.slice Ao14 t107.length co14 : Value).ownBlock ∧ some k_ ≠ (.slice Ao16 t110.length co16 : Value).ownBlock)) (by (with_reducible repeat (first | apply Kd.R_alloc | apply Kd.R_drewN | apply Kd.R_drew)); exact Kd.R_mono HO_114000.out (fun _ hk => ⟨⟨hk.2.1, ⟨hk.2.2.1, hk.2.2.2⟩⟩, hk.1⟩)) hg hat); have n1_ := Aside0.mk (Kd.R_after (ok := (fun k_ => some k_ ≠ (.slice (some ad116) t101.length co10 : Value).ownBlock ∧ some k_ ≠ (.slice Ao14 t107.length co14 : Value).ownBlock ∧ some k_ ≠ (.slice Ao16 t110.length co16 : Value).ownBlock)) (by (with_reducible repeat (first | apply Kd.R_alloc | apply Kd.R_drewN | apply Kd.R_drew)); exact Kd.R_mono HO_114001.out (fun _ hk => ⟨⟨hk.2.1, ⟨hk.2.2.1, hk.2.2.2⟩⟩, hk.1⟩)) hg hat); have n2_ := Aside0.mk (Kd.R_after (ok := (fun k_ => some k_ ≠ (.slice (some ad116) t101.length co10 : Value).ownBlock ∧ some k_ ≠ (.slice (some ad117) t104.length co13 : Value).ownBlock ∧ some k_ ≠ (.slice Ao16 t110.length co16 : Value).ownBlock)) (by (with_reducible repeat (first | apply Kd.R_alloc | apply Kd.R_drewN | apply Kd.R_drew)); exact Kd.R_mono HO_115000.out (fun _ hk => ⟨⟨hk.2.1, ⟨hk.2.2.1, hk.2.2.2⟩⟩, hk.1⟩)) hg hat); have n3_ := Aside0.mk (Kd.R_after (ok := (fun k_ => some k_ ≠ (.slice (some ad116) t101.length co10 : Value).ownBlock ∧ some k_ ≠ (.slice (some ad117) t104.length co13 : Value).ownBlock ∧ some k_ ≠ (.slice Ao14 t107.length co14 : Value).ownBlock)) (by (with_reducible repeat (first | apply Kd.R_alloc | apply Kd.R_drewN | apply Kd.R_drew)); exact Kd.R_mono HO_115001.out (fun _ hk => ⟨⟨hk.2.1, ⟨hk.2.2.1, hk.2.2.2⟩⟩, hk.1⟩)) hg hat); have n4_ := Aside0.mk (blk_grown (g := gb113) (o := .cells #[.slice (some ad116) t101.length co10, .slice (some ad117) t104.length co13] 24 (0, 0)) (by (with_reducible repeat (first | refine blk_drewN ?_ _ | refine blk_drew ?_ | refine blk_alloc ?_ _)); exact BK113.out) hg (Kd.R_ne HO_12.out BK113.out (by decide))); have n5_ := Aside0.mk (blk_grown (g := gb114) (o := .cells #[.slice Ao14 t107.length co14, .slice Ao16 t110.length co16] 25 (0, 0)) (by (with_reducible repeat (first | refine blk_drewN ?_ _ | refine blk_drew ?_ | refine blk_alloc ?_ _)); exact BK114.out) hg (Kd.R_ne HO_12.out BK114.out (by decide))); have n6_ := Aside0.mk (hb); have n7_ := Aside0.mk (ho); clear HO_114000; clear HO_114001; clear HO_115000; clear HO_115001; clear BK113; clear BK114; clear HB; clear HO_12; have HO_114000 := n0_; have HO_114001 := n1_; have HO_115000 := n2_; have HO_115001 := n3_; have BK113 := n4_; have BK114 := n5_; have HB := n6_; have HO120 := n7_; clear n0_ n1_ n2_ n3_ n4_ n5_ n6_ n7_; clear ho hb hg hat))
           go_roundg k1
           case measure => have := HK1.out; omega
           case rel => exact ⟨(y118), (wrap64 (x33_1 + 1)), (by first | rfl | (simp; done) | (simp [*]; done)), (by first | exact H' | exact ⟨by simp only [hji24, hji26]; exact H'.out⟩), ⟨by have := HK1.out; omega⟩, ⟨by (with_reducible repeat (first | apply Kd.R_alloc | apply Kd.R_drewN | apply Kd.R_drew)); exact HO120.out⟩, ⟨by (with_reducible repeat (first | apply Kd.R_alloc | apply Kd.R_drewN | apply Kd.R_drew)); exact Kd.R_mono HO_114000.out (fun _ hk => ⟨hk.2, ⟨hk.1.1, ⟨hk.1.2.1, hk.1.2.2⟩⟩⟩)⟩, ⟨by (with_reducible repeat (first | apply Kd.R_alloc | apply Kd.R_drewN | apply Kd.R_drew)); exact Kd.R_mono HO_114001.out (fun _ hk => ⟨hk.2, ⟨hk.1.1, ⟨hk.1.2.1, hk.1.2.2⟩⟩⟩)⟩, ⟨by (with_reducible repeat (first | apply Kd.R_alloc | apply Kd.R_drewN | apply Kd.R_drew)); exact Kd.R_mono HO_115000.out (fun _ hk => ⟨hk.2, ⟨hk.1.1, ⟨hk.1.2.1, hk.1.2.2⟩⟩⟩)⟩, ⟨by (with_reducible repeat (first | apply Kd.R_alloc | apply Kd.R_drewN | apply Kd.R_drew)); exact Kd.R_mono HO_115001.out (fun _ hk => ⟨hk.2, ⟨hk.1.1, ⟨hk.1.2.1, hk.1.2.2⟩⟩⟩)⟩, ⟨by (with_reducible repeat (first | refine blk_drewN ?_ _ | refine blk_drew ?_ | refine blk_alloc ?_ _)); exact BK113.out⟩, ⟨by (with_reducible repeat (first | refine blk_drewN ?_ _ | refine blk_drew ?_ | refine blk_alloc ?_ _)); exact BK114.out⟩, ⟨by repeat (first | (with_reducible first | exact HB.out | apply below_alloc | apply pw_below_drewN | apply below_drew1 | refine below_set ?_ GE113.out | refine below_set ?_ GE114.out) | exact HB.out)⟩⟩
          ·rw [if_neg c28] at H
           exact absurd H (by simp)
         ·rw [if_neg c27] at H
          have c27b0 : ((Go.bits .and .u32 (ji26) 1) == 1) = false := beq_eq_false_iff_ne.mpr c27
          have c27b1 : ((Go.bits .and .u32 (ji26) 1) != 1) = true := bne_iff_ne.mpr c27
          have H' := Aside0.mk H
          clear H
          have hnb32 := NB113_114.out
          have hnc32 := NB114_113.out
          have hcz33_0 : wr.cell? ⟨gb113, 0, none⟩ = some (.slice Ao10 t101.length co10) := (blk_cell BK113.out 0).trans rfl
          have hcz33_1 : wr.cell? ⟨gb113, 1, none⟩ = some (.slice Ao13 t104.length co13) := (blk_cell BK113.out 1).trans rfl
          have hfz33_0 := blk_frozen BK113.out 0
          have hfz33_1 := blk_frozen BK113.out 1
          have p116 : 0 ≤ (x33_1 : Int) := of_decide_eq_true (by first | (with_reducible assumption) | assumption)
          have q116 : x33_1 < (t101.length : Int) := of_decide_eq_true (by first | (with_reducible assumption) | assumption)
          obtain ⟨ad116, e116, hx116_0⟩ := Kd.at_int (Kd.R_reads' HO_114000.out).2.2 x33_1 p116 q116
          cases e116
          replace p116 := eq_true p116
          replace q116 := eq_true q116
          have p117 : 0 ≤ (x33_1 : Int) := of_decide_eq_true (by first | (with_reducible assumption) | assumption)
          have q117 : x33_1 < (t104.length : Int) := of_decide_eq_true (by first | (with_reducible assumption) | assumption)
          obtain ⟨ad117, e117, hx117_0⟩ := Kd.at_int (Kd.R_reads' HO_114001.out).2.2 x33_1 p117 q117
          cases e117
          replace p117 := eq_true p117
          replace q117 := eq_true q117
          go_wp2
          go_roundg k1
          case measure => have := HK1.out; omega
          case rel => exact ⟨(x12_1), (wrap64 (x33_1 + 1)), (by first | rfl | (simp; done) | (simp [*]; done)), (by first | exact H' | exact ⟨by simp only [hji24, hji26]; exact H'.out⟩), ⟨by have := HK1.out; omega⟩, ⟨by (with_reducible repeat (first | apply Kd.R_alloc | apply Kd.R_drewN | apply Kd.R_drew)); exact HO_12.out⟩, ⟨by (with_reducible repeat (first | apply Kd.R_alloc | apply Kd.R_drewN | apply Kd.R_drew)); exact HO_114000.out⟩, ⟨by (with_reducible repeat (first | apply Kd.R_alloc | apply Kd.R_drewN | apply Kd.R_drew)); exact HO_114001.out⟩, ⟨by (with_reducible repeat (first | apply Kd.R_alloc | apply Kd.R_drewN | apply Kd.R_drew)); exact HO_115000.out⟩, ⟨by (with_reducible repeat (first | apply Kd.R_alloc | apply Kd.R_drewN | apply Kd.R_drew)); exact HO_115001.out⟩, ⟨by (with_reducible repeat (first | refine blk_drewN ?_ _ | refine blk_drew ?_ | refine blk_alloc ?_ _)); exact BK113.out⟩, ⟨by (with_reducible repeat (first | refine blk_drewN ?_ _ | refine blk_drew ?_ | refine blk_alloc ?_ _)); exact BK114.out⟩, ⟨by repeat (first | (with_reducible first | exact HB.out | apply below_alloc | apply pw_below_drewN | apply below_drew1 | refine below_set ?_ GE113.out | refine below_set ?_ GE114.out) | exact HB.out)⟩⟩
        ·rw [if_neg c25] at H
         exact absurd H (by simp)
       ·rw [if_neg c23] at H
        exact absurd H (by simp)
      ·rw [if_neg c22] at H
       have c22b0 : decide (3 ≤ (rd t101 x33_1)) = false := decide_eq_false c22
       clear c22
       have H' := Aside0.mk H
       clear H
       have hnb34 := NB113_114.out
       have hnc34 := NB114_113.out
       have hcz35_0 : wr.cell? ⟨gb113, 0, none⟩ = some (.slice Ao10 t101.length co10) := (blk_cell BK113.out 0).trans rfl
       have hcz35_1 : wr.cell? ⟨gb113, 1, none⟩ = some (.slice Ao13 t104.length co13) := (blk_cell BK113.out 1).trans rfl
       have hfz35_0 := blk_frozen BK113.out 0
       have hfz35_1 := blk_frozen BK113.out 1
       have p116 : 0 ≤ (x33_1 : Int) := of_decide_eq_true (by first | (with_reducible assumption) | assumption)
       have q116 : x33_1 < (t101.length : Int) := of_decide_eq_true (by first | (with_reducible assumption) | assumption)
       obtain ⟨ad116, e116, hx116_0⟩ := Kd.at_int (Kd.R_reads' HO_114000.out).2.2 x33_1 p116 q116
       cases e116
       replace p116 := eq_true p116
       replace q116 := eq_true q116
       go_wp2
       go_roundg k1
       case measure => have := HK1.out; omega
       case rel => exact ⟨(x12_1), (wrap64 (x33_1 + 1)), (by first | rfl | (simp; done) | (simp [*]; done)), H', ⟨by have := HK1.out; omega⟩, ⟨by (with_reducible repeat (first | apply Kd.R_alloc | apply Kd.R_drewN | apply Kd.R_drew)); exact HO_12.out⟩, ⟨by (with_reducible repeat (first | apply Kd.R_alloc | apply Kd.R_drewN | apply Kd.R_drew)); exact HO_114000.out⟩, ⟨by (with_reducible repeat (first | apply Kd.R_alloc | apply Kd.R_drewN | apply Kd.R_drew)); exact HO_114001.out⟩, ⟨by (with_reducible repeat (first | apply Kd.R_alloc | apply Kd.R_drewN | apply Kd.R_drew)); exact HO_115000.out⟩, ⟨by (with_reducible repeat (first | apply Kd.R_alloc | apply Kd.R_drewN | apply Kd.R_drew)); exact HO_115001.out⟩, ⟨by (with_reducible repeat (first | refine blk_drewN ?_ _ | refine blk_drew ?_ | refine blk_alloc ?_ _)); exact BK113.out⟩, ⟨by (with_reducible repeat (first | refine blk_drewN ?_ _ | refine blk_drew ?_ | refine blk_alloc ?_ _)); exact BK114.out⟩, ⟨by repeat (first | (with_reducible first | exact HB.out | apply below_alloc | apply pw_below_drewN | apply below_drew1 | refine below_set ?_ GE113.out | refine below_set ?_ GE114.out) | exact HB.out)⟩⟩
     ·rw [if_neg c21] at H
      exact absurd H (by simp)
    ·rw [if_neg c20] at H
     exact absurd H (by simp)
   ·rw [if_neg c19] at H
    have c19b0 : decide (x33_1 < (t101.length : Int)) = false := decide_eq_false c19
    clear c19
    by_cases c36 : (x12_1.length : Int) = 0
    ·rw [if_pos c36] at H
     have c36b0 : ((x12_1.length : Int) == 0) = true := beq_iff_eq.mpr c36
     have c36b1 : ((x12_1.length : Int) != 0) = false := bne_eq_false_iff_eq.mpr c36
     clear c36
     replace H := Option.bind_eq_some_iff.mp H
     obtain ⟨t121, A370, H⟩ := H
     replace H : (some t121) = some r := H
     have A37 := Aside0.mk A370
     clear A370
     obtain rfl := Option.some.inj H
     obtain ⟨Ao38, co38, eo38⟩ := Kd.R_slice HO_12.out
     subst eo38
     go_wp2_with (first | ((with_reducible refine gate_callee (f := 28) rfl ?_); refine goesL_ (some 62) rfl rfl Try.func28 (by kernel_rfl) rfl #[] rfl (by (try simp only [List.map_toArray, List.map_cons, List.map_nil]); first | done | rfl | (simp only [List.length_drop, List.length_take]; rfl)) ?_; (with_reducible refine (imprimaturlaw07_wakes.calls k1  t121 _ A37.out).mono ?_); rintro e w39 ⟨rfl, hb⟩; refine ⟨_, rfl, ?_⟩; have n0_ := Aside0.mk (Kd.R_below (by (with_reducible repeat (first | apply Kd.R_alloc | apply Kd.R_drewN | apply Kd.R_drew)); exact HO_12.out) hb); have n1_ := Aside0.mk (Kd.R_below (by (with_reducible repeat (first | apply Kd.R_alloc | apply Kd.R_drewN | apply Kd.R_drew)); exact HO_114000.out) hb); have n2_ := Aside0.mk (Kd.R_below (by (with_reducible repeat (first | apply Kd.R_alloc | apply Kd.R_drewN | apply Kd.R_drew)); exact HO_114001.out) hb); have n3_ := Aside0.mk (Kd.R_below (by (with_reducible repeat (first | apply Kd.R_alloc | apply Kd.R_drewN | apply Kd.R_drew)); exact HO_115000.out) hb); have n4_ := Aside0.mk (Kd.R_below (by (with_reducible repeat (first | apply Kd.R_alloc | apply Kd.R_drewN | apply Kd.R_drew)); exact HO_115001.out) hb); have n5_ := Aside0.mk (blk_below (g := gb113) (o := .cells #[.slice Ao10 t101.length co10, .slice Ao13 t104.length co13] 24 (0, 0)) (by (with_reducible repeat (first | refine blk_drewN ?_ _ | refine blk_drew ?_ | refine blk_alloc ?_ _)); exact BK113.out) hb); have n6_ := Aside0.mk (blk_below (g := gb114) (o := .cells #[.slice Ao14 t107.length co14, .slice Ao16 t110.length co16] 25 (0, 0)) (by (with_reducible repeat (first | refine blk_drewN ?_ _ | refine blk_drew ?_ | refine blk_alloc ?_ _)); exact BK114.out) hb); have n7_ := Aside0.mk (below_step (by repeat (first | (with_reducible first | exact HB.out | apply below_alloc | apply pw_below_drewN | apply below_drew1 | refine below_set ?_ GE113.out | refine below_set ?_ GE114.out) | exact HB.out)) hb); clear HO_12; clear HO_114000; clear HO_114001; clear HO_115000; clear HO_115001; clear BK113; clear BK114; clear HB; have HO_12 := n0_; have HO_114000 := n1_; have HO_114001 := n2_; have HO_115000 := n3_; have HO_115001 := n4_; have BK113 := n5_; have BK114 := n6_; have HB := n7_; clear n0_ n1_ n2_ n3_ n4_ n5_ n6_ n7_; (try clear hb); (try clear hb2); (try clear hk); (try clear hi)))
     go_ret
     exact ⟨by first | rfl | (simp [errW_none, errW_some] <;> rfl) | (simp [*, errW_none, errW_some] <;> rfl), by repeat (first | (with_reducible first | exact HB.out | apply below_alloc | apply pw_below_drewN | apply below_drew1 | refine below_set ?_ GE113.out | refine below_set ?_ GE114.out) | exact HB.out)⟩
    ·rw [if_neg c36] at H
     have c36b0 : ((x12_1.length : Int) == 0) = false := beq_eq_false_iff_ne.mpr c36
     have c36b1 : ((x12_1.length : Int) != 0) = true := bne_iff_ne.mpr c36
     have c36b2 : ¬ (x12_1 = []) := fun h_ => c36 (by rw [h_]; rfl)
     replace H := Option.bind_eq_some_iff.mp H
     obtain ⟨t122, A400, H⟩ := H
     replace H : (if 0 ≤ t122 then (if t122 < (x12_1.length : Int) then (if 0 ≤ (rd x12_1 t122) then (if (rd x12_1 t122) < (t104.length : Int) then ((enter_Leave.f k1 t101 t104 t115 (-1)).bind fun t125 => ((imprimaturlaw07_Past.f k1 t107 t110 l3).bind fun t128 => ((enter_Remember.f k1 t101 t104 t115 t125 t128).bind fun t131 => (if (t131.length : Int) = (t101.length : Int) then ((imprimaturlaw07_bits.f k1 t125).bind fun t134 => (imprimaturlaw07_EnterBack.j1 k1 t115 (rd x12_1 t122) (rd t104 (rd x12_1 t122)) t131 (t134 != t115) t101 t104)) else (imprimaturlaw07_EnterBack.j1 k1 t115 (rd x12_1 t122) (rd t104 (rd x12_1 t122)) t131 true t101 t104))))) else (none)) else (none)) else (none)) else (none)) = some r := H
     have A40 := Aside0.mk A400
     clear A400
     by_cases c41 : 0 ≤ t122
     ·rw [if_pos c41] at H
      have c41b0 : decide (0 ≤ t122) = true := decide_eq_true c41
      clear c41
      by_cases c42 : t122 < (x12_1.length : Int)
      ·rw [if_pos c42] at H
       have c42b0 : decide (t122 < (x12_1.length : Int)) = true := decide_eq_true c42
       clear c42
       by_cases c43 : 0 ≤ (rd x12_1 t122)
       ·rw [if_pos c43] at H
        have c43b0 : decide (0 ≤ (rd x12_1 t122)) = true := decide_eq_true c43
        clear c43
        by_cases c44 : (rd x12_1 t122) < (t104.length : Int)
        ·rw [if_pos c44] at H
         have c44b0 : decide ((rd x12_1 t122) < (t104.length : Int)) = true := decide_eq_true c44
         clear c44
         replace H := Option.bind_eq_some_iff.mp H
         obtain ⟨t125, A450, H⟩ := H
         replace H : ((imprimaturlaw07_Past.f k1 t107 t110 l3).bind fun t128 => ((enter_Remember.f k1 t101 t104 t115 t125 t128).bind fun t131 => (if (t131.length : Int) = (t101.length : Int) then ((imprimaturlaw07_bits.f k1 t125).bind fun t134 => (imprimaturlaw07_EnterBack.j1 k1 t115 (rd x12_1 t122) (rd t104 (rd x12_1 t122)) t131 (t134 != t115) t101 t104)) else (imprimaturlaw07_EnterBack.j1 k1 t115 (rd x12_1 t122) (rd t104 (rd x12_1 t122)) t131 true t101 t104)))) = some r := H
         have A45 := Aside0.mk A450
         clear A450
         replace H := Option.bind_eq_some_iff.mp H
         obtain ⟨t128, A460, H⟩ := H
         replace H : ((enter_Remember.f k1 t101 t104 t115 t125 t128).bind fun t131 => (if (t131.length : Int) = (t101.length : Int) then ((imprimaturlaw07_bits.f k1 t125).bind fun t134 => (imprimaturlaw07_EnterBack.j1 k1 t115 (rd x12_1 t122) (rd t104 (rd x12_1 t122)) t131 (t134 != t115) t101 t104)) else (imprimaturlaw07_EnterBack.j1 k1 t115 (rd x12_1 t122) (rd t104 (rd x12_1 t122)) t131 true t101 t104))) = some r := H
         have A46 := Aside0.mk A460
         clear A460
         replace H := Option.bind_eq_some_iff.mp H
         obtain ⟨t131, A470, H⟩ := H
         replace H : (if (t131.length : Int) = (t101.length : Int) then ((imprimaturlaw07_bits.f k1 t125).bind fun t134 => (imprimaturlaw07_EnterBack.j1 k1 t115 (rd x12_1 t122) (rd t104 (rd x12_1 t122)) t131 (t134 != t115) t101 t104)) else (imprimaturlaw07_EnterBack.j1 k1 t115 (rd x12_1 t122) (rd t104 (rd x12_1 t122)) t131 true t101 t104)) = some r := H
         have A47 := Aside0.mk A470
         clear A470
         have HC48 := Aside0.mk H
         clear H
         obtain ⟨Ao49, co49, eo49⟩ := Kd.R_slice HO_12.out
         subst eo49
         try go_wp2_with (first | ((with_reducible refine gate_callee (f := 19) rfl ?_); refine goesL_ (some 67) rfl rfl Try.func19 (by kernel_rfl) rfl #[.int .i64 a2, .int .i64 (x12_1.length : Int)] rfl (by (try simp only [List.map_toArray, List.map_cons, List.map_nil]); first | done | rfl | (simp only [List.length_drop, List.length_take]; rfl)) ?_; (with_reducible refine (imprimaturkeep_Within.calls a2 (x12_1.length : Int) t122 _ A40.out).mono ?_); rintro e w' ⟨rfl, ⟨nd, rfl⟩⟩; refine ⟨_, rfl, ?_⟩; have p123 : 0 ≤ (t122 : Int) := of_decide_eq_true (by first | (with_reducible assumption) | assumption); have q123 : t122 < (x12_1.length : Int) := of_decide_eq_true (by first | (with_reducible assumption) | assumption); obtain ⟨ad123, e123, hx123_0⟩ := Kd.at_int (Kd.R_reads' HO_12.out).2.2 t122 p123 q123; cases e123; replace p123 := eq_true p123; replace q123 := eq_true q123; have hnb50 := NB113_114.out; have hnc50 := NB114_113.out; have hcz51_0 : wr.cell? ⟨gb113, 0, none⟩ = some (.slice Ao10 t101.length co10) := (blk_cell BK113.out 0).trans rfl; have hcz51_1 : wr.cell? ⟨gb113, 1, none⟩ = some (.slice Ao13 t104.length co13) := (blk_cell BK113.out 1).trans rfl; have hfz51_0 := blk_frozen BK113.out 0; have hfz51_1 := blk_frozen BK113.out 1; have p124 : 0 ≤ ((rd x12_1 t122) : Int) := of_decide_eq_true (by first | (with_reducible assumption) | assumption); have q124 : (rd x12_1 t122) < (t104.length : Int) := of_decide_eq_true (by first | (with_reducible assumption) | assumption); obtain ⟨ad124, e124, hx124_0⟩ := Kd.at_int (Kd.R_reads' HO_114001.out).2.2 (rd x12_1 t122) p124 q124; cases e124; replace p124 := eq_true p124; replace q124 := eq_true q124) | ((with_reducible refine gate_callee (f := 23) rfl ?_); refine goesL_ (some 77) rfl rfl Try.func23 (by kernel_rfl) rfl #[.agg #[.slice Ao10 t101.length co10, .slice (some ad124) t104.length co13], .int .u32 t115, .int .i64 (-1)] rfl (by (try simp only [List.map_toArray, List.map_cons, List.map_nil]); first | done | rfl | (simp only [List.length_drop, List.length_take]; rfl)) ?_; (with_reducible refine (enter_Leave.calls k1 _ _ t101 _ _ t104 t115 (-1) t125 _ ?side1 ?side2 ?side3 ?side4 A45.out).mono ?_); (case side1 => repeat (first | exact (Kd.R_reads' HO_114000.out).2.2 | (with_reducible refine Kd.C_alloc ?_ _) | (with_reducible refine Kd.C_drewN ?_ _) | (with_reducible refine Kd.C_drew ?_))); (case side2 => exact (Kd.R_reads' HO_114000.out).2.1); (case side3 => repeat (first | exact (Kd.R_reads' HO_114001.out).2.2 | (with_reducible refine Kd.C_alloc ?_ _) | (with_reducible refine Kd.C_drewN ?_ _) | (with_reducible refine Kd.C_drew ?_))); (case side4 => exact (Kd.R_reads' HO_114001.out).2.1); rintro e w52 ⟨v126, rfl, ho0, hb⟩; refine ⟨_, rfl, ?_⟩; have n0_ := Aside0.mk (Kd.R_elder' (by (with_reducible repeat (first | apply Kd.R_alloc | apply Kd.R_drewN | apply Kd.R_drew)); exact HO_12.out) (Kd.R_base ho0) hb); have n1_ := Aside0.mk (Kd.R_elder' (by (with_reducible repeat (first | apply Kd.R_alloc | apply Kd.R_drewN | apply Kd.R_drew)); exact HO_114000.out) (Kd.R_base ho0) hb); have n2_ := Aside0.mk (Kd.R_elder' (by (with_reducible repeat (first | apply Kd.R_alloc | apply Kd.R_drewN | apply Kd.R_drew)); exact HO_114001.out) (Kd.R_base ho0) hb); have n3_ := Aside0.mk (Kd.R_elder' (by (with_reducible repeat (first | apply Kd.R_alloc | apply Kd.R_drewN | apply Kd.R_drew)); exact HO_115000.out) (Kd.R_base ho0) hb); have n4_ := Aside0.mk (Kd.R_elder' (by (with_reducible repeat (first | apply Kd.R_alloc | apply Kd.R_drewN | apply Kd.R_drew)); exact HO_115001.out) (Kd.R_base ho0) hb); have n5_ := Aside0.mk (Kd.R_lower (Kd.R_new' (Kd.R_new' (Kd.R_new' (Kd.R_new' (Kd.R_new' ho0 (Kd.R_lt (by (with_reducible repeat (first | apply Kd.R_alloc | apply Kd.R_drewN | apply Kd.R_drew)); exact HO_12.out))) (Kd.R_lt (by (with_reducible repeat (first | apply Kd.R_alloc | apply Kd.R_drewN | apply Kd.R_drew)); exact HO_114000.out))) (Kd.R_lt (by (with_reducible repeat (first | apply Kd.R_alloc | apply Kd.R_drewN | apply Kd.R_drew)); exact HO_114001.out))) (Kd.R_lt (by (with_reducible repeat (first | apply Kd.R_alloc | apply Kd.R_drewN | apply Kd.R_drew)); exact HO_115000.out))) (Kd.R_lt (by (with_reducible repeat (first | apply Kd.R_alloc | apply Kd.R_drewN | apply Kd.R_drew)); exact HO_115001.out))) (below_size (by repeat (first | (with_reducible first | exact HB.out | apply below_alloc | apply pw_below_drewN | apply below_drew1 | refine below_set ?_ GE113.out | refine below_set ?_ GE114.out) | exact HB.out)))); have n6_ := Aside0.mk (blk_below (g := gb113) (o := .cells #[.slice Ao10 t101.length co10, .slice (some ad124) t104.length co13] 24 (0, 0)) (by (with_reducible repeat (first | refine blk_drewN ?_ _ | refine blk_drew ?_ | refine blk_alloc ?_ _)); exact BK113.out) hb); have n7_ := Aside0.mk (blk_below (g := gb114) (o := .cells #[.slice Ao14 t107.length co14, .slice Ao16 t110.length co16] 25 (0, 0)) (by (with_reducible repeat (first | refine blk_drewN ?_ _ | refine blk_drew ?_ | refine blk_alloc ?_ _)); exact BK114.out) hb); have n8_ := Aside0.mk (below_step (by repeat (first | (with_reducible first | exact HB.out | apply below_alloc | apply pw_below_drewN | apply below_drew1 | refine below_set ?_ GE113.out | refine below_set ?_ GE114.out) | exact HB.out)) hb); clear HO_12; clear HO_114000; clear HO_114001; clear HO_115000; clear HO_115001; clear BK113; clear BK114; clear HB; have HO_12 := n0_; have HO_114000 := n1_; have HO_114001 := n2_; have HO_115000 := n3_; have HO_115001 := n4_; have HO127 := n5_; have BK113 := n6_; have BK114 := n7_; have HB := n8_; clear n0_ n1_ n2_ n3_ n4_ n5_ n6_ n7_ n8_; (try clear hb); (try clear hb2); (try clear hk); (try clear hi); (try clear ho0)))
         have n0_ := Aside0.mk (Kd.R_drew HO_12.out)
         have n1_ := Aside0.mk (Kd.R_drew HO_114000.out)
         have n2_ := Aside0.mk (Kd.R_drew HO_114001.out)
         have n3_ := Aside0.mk (Kd.R_drew HO_115000.out)
         have n4_ := Aside0.mk (Kd.R_drew HO_115001.out)
         have n5_ := Aside0.mk (Kd.R_drew HO127.out)
         have n6_ := Aside0.mk (blk_drew BK113.out)
         have n7_ := Aside0.mk (blk_drew BK114.out)
         have n8_ := Aside0.mk (below_drew1 HB.out)
         clear HO_12
         clear HO_114000
         clear HO_114001
         clear HO_115000
         clear HO_115001
         clear HO127
         clear BK113
         clear BK114
         clear HB
         have HO_12 := n0_
         have HO_114000 := n1_
         have HO_114001 := n2_
         have HO_115000 := n3_
         have HO_115001 := n4_
         have HO127 := n5_
         have BK113 := n6_
         have BK114 := n7_
         have HB := n8_
         clear n0_ n1_ n2_ n3_ n4_ n5_ n6_ n7_ n8_
         refine start_ (n := 8) (S := fun w' => w'.cell? ⟨gb113, 0, none⟩ = some (.slice Ao10 t101.length co10) ∧ w'.cell? ⟨gb113, 1, none⟩ = some (.slice (some ad124) t104.length co13) ∧ w'.cell? ⟨gb114, 0, none⟩ = some (.slice Ao14 t107.length co14) ∧ w'.cell? ⟨gb114, 1, none⟩ = some (.slice Ao16 t110.length co16)) (ds := []) #[false, false, false, false, false, false, false, false] (by kernel_rfl) rfl rfl ⟨(blk_cell BK113.out 0).trans rfl, (blk_cell BK113.out 1).trans rfl, (blk_cell BK114.out 0).trans rfl, (blk_cell BK114.out 1).trans rfl⟩ (fun hHeld => ?_); refine with_tabW imprimaturlaw07_EnterBack.tab15 imprimaturlaw07_EnterBack.bits15 (fun HT_ HW_ => ?_)
         generalize w52.drew = w53 at HO_12 HO_114000 HO_114001 HO_115000 HO_115001 HO127 BK113 BK114 HB hHeld ⊢
         refine pure_ (i := 1) (N := some 79) (v := ?_) (a' := ?_) #[false, true, false, false, false, false, false, false] rfl rfl (any_of HT_.out (by kernel_rfl)) (fun _ _ _ h => h) (Or.inl ⟨by rfl, ?_⟩) ?_ ?_
         rotate_left
         ·intro w'
          go_simp
          with_reducible rfl
         rotate_left
         ·simp only [Act.put, List.setIfInBounds_toArray, List.set_cons_zero, List.set_cons_succ, i64_w, i32_w]
          rfl
         refine pure_ (i := 2) (N := some 80) (v := ?_) (a' := ?_) #[false, true, true, false, false, false, false, false] rfl rfl (any_of HT_.out (by kernel_rfl)) (fun _ _ _ h => h) (Or.inl ⟨by rfl, ?_⟩) ?_ ?_
         rotate_left
         ·intro w'
          go_simp
          with_reducible rfl
         rotate_left
         ·simp only [Act.put, List.setIfInBounds_toArray, List.set_cons_zero, List.set_cons_succ, i64_w, i32_w]
          rfl
         refine pure_ (i := 4) (N := some 82) (v := ?_) (a' := ?_) #[false, true, true, false, true, false, false, false] rfl rfl (any_of HT_.out (by kernel_rfl)) (fun _ _ _ h => h) (Or.inl ⟨by rfl, ?_⟩) ?_ ?_
         rotate_left
         ·intro w'
          go_simp
          with_reducible rfl
         rotate_left
         ·simp only [Act.put, List.setIfInBounds_toArray, List.set_cons_zero, List.set_cons_succ, i64_w, i32_w]
          rfl
         refine take_ (i := 0) (N := some 78) (v := ?_) (a' := ?_) #[true, true, true, false, true, false, false, false] rfl rfl (take_ofW HT_.out HW_.out (by kernel_rfl)) (fun _ _ _ h => h) (Or.inl ⟨by rfl, ?_⟩) hHeld ?_ ?_
         rotate_left
         ·rintro w' ⟨s0, s1, s2, s3⟩
          go_simp
          with_reducible rfl
         rotate_left
         ·simp only [Act.put, List.setIfInBounds_toArray, List.set_cons_zero, List.set_cons_succ, i64_w, i32_w]
          rfl
         refine take_ (i := 3) (N := some 81) (v := ?_) (a' := ?_) #[true, true, true, true, true, false, false, false] rfl rfl (take_ofW HT_.out HW_.out (by kernel_rfl)) (fun _ _ _ h => h) (Or.inl ⟨by rfl, ?_⟩) hHeld ?_ ?_
         rotate_left
         ·rintro w' ⟨s0, s1, s2, s3⟩
          go_simp
          with_reducible rfl
         rotate_left
         ·simp only [Act.put, List.setIfInBounds_toArray, List.set_cons_zero, List.set_cons_succ, i64_w, i32_w]
          rfl
         refine one_ (i := 5) (N := some 83) #[true, true, true, true, true, true, false, false] rfl rfl (one_of HT_.out (by kernel_rfl)) (by decide) (fun K hK => ?_)
         refine goes_ Try.func22 (by kernel_rfl) rfl #[.agg #[.slice Ao14 t107.length co14, .slice Ao16 t110.length co16], .slice A3 l3.length c3] (by rfl) rfl rfl (by (try simp only [List.map_toArray, List.map_cons, List.map_nil]); first | done | rfl | (simp only [List.length_drop, List.length_take]; rfl)) ?_
         with_reducible refine (imprimaturlaw07_Past.calls k1 _ _ t107 _ _ t110 _ _ l3 t128 _ ?side1 ?side2 ?side3 ?side4 ?side5 ?side6 A46.out).mono ?_
         (case side1 => repeat (first | exact (Kd.R_reads' HO_115000.out).2.2 | (with_reducible refine Kd.C_alloc ?_ _) | (with_reducible refine Kd.C_drewN ?_ _) | (with_reducible refine Kd.C_drew ?_)))
         (case side2 => exact (Kd.R_reads' HO_115000.out).2.1)
         (case side3 => repeat (first | exact (Kd.R_reads' HO_115001.out).2.2 | (with_reducible refine Kd.C_alloc ?_ _) | (with_reducible refine Kd.C_drewN ?_ _) | (with_reducible refine Kd.C_drew ?_)))
         (case side4 => exact (Kd.R_reads' HO_115001.out).2.1)
         (case side5 => repeat (first | exact (Kd.C_below HR3.out HB.out) | (with_reducible refine Kd.C_alloc ?_ _) | (with_reducible refine Kd.C_drewN ?_ _) | (with_reducible refine Kd.C_drew ?_)))
         (case side6 => exact HC3.out)
         rintro e w54 ⟨v129, rfl, ho0, hb⟩
         refine ⟨_, rfl, ?_⟩
         have n0_ := Aside0.mk (Kd.R_below (by (with_reducible repeat (first | apply Kd.R_alloc | apply Kd.R_drewN | apply Kd.R_drew)); exact HO_12.out) hb)
         have n1_ := Aside0.mk (Kd.R_below (by (with_reducible repeat (first | apply Kd.R_alloc | apply Kd.R_drewN | apply Kd.R_drew)); exact HO_114000.out) hb)
         have n2_ := Aside0.mk (Kd.R_below (by (with_reducible repeat (first | apply Kd.R_alloc | apply Kd.R_drewN | apply Kd.R_drew)); exact HO_114001.out) hb)
         have n3_ := Aside0.mk (Kd.R_below (by (with_reducible repeat (first | apply Kd.R_alloc | apply Kd.R_drewN | apply Kd.R_drew)); exact HO_115000.out) hb)
         have n4_ := Aside0.mk (Kd.R_below (by (with_reducible repeat (first | apply Kd.R_alloc | apply Kd.R_drewN | apply Kd.R_drew)); exact HO_115001.out) hb)
         have n5_ := Aside0.mk (Kd.R_below (by (with_reducible repeat (first | apply Kd.R_alloc | apply Kd.R_drewN | apply Kd.R_drew)); exact HO127.out) hb)
         have n6_ := Aside0.mk (Kd.R_lower ho0 (below_size (by repeat (first | (with_reducible first | exact HB.out | apply below_alloc | apply pw_below_drewN | apply below_drew1 | refine below_set ?_ GE113.out | refine below_set ?_ GE114.out) | exact HB.out))))
         have n7_ := Aside0.mk (blk_below (g := gb113) (o := .cells #[.slice Ao10 t101.length co10, .slice (some ad124) t104.length co13] 24 (0, 0)) (by (with_reducible repeat (first | refine blk_drewN ?_ _ | refine blk_drew ?_ | refine blk_alloc ?_ _)); exact BK113.out) hb)
         have n8_ := Aside0.mk (blk_below (g := gb114) (o := .cells #[.slice Ao14 t107.length co14, .slice Ao16 t110.length co16] 25 (0, 0)) (by (with_reducible repeat (first | refine blk_drewN ?_ _ | refine blk_drew ?_ | refine blk_alloc ?_ _)); exact BK114.out) hb)
         have n9_ := Aside0.mk (below_step (by repeat (first | (with_reducible first | exact HB.out | apply below_alloc | apply pw_below_drewN | apply below_drew1 | refine below_set ?_ GE113.out | refine below_set ?_ GE114.out) | exact HB.out)) hb)
         clear HO_12
         clear HO_114000
         clear HO_114001
         clear HO_115000
         clear HO_115001
         clear HO127
         clear BK113
         clear BK114
         clear HB
         have HO_12 := n0_
         have HO_114000 := n1_
         have HO_114001 := n2_
         have HO_115000 := n3_
         have HO_115001 := n4_
         have HO127 := n5_
         have HO130 := n6_
         have BK113 := n7_
         have BK114 := n8_
         have HB := n9_
         clear n0_ n1_ n2_ n3_ n4_ n5_ n6_ n7_ n8_ n9_
         (try clear hb)
         (try clear hb2)
         (try clear hk)
         (try clear hi)
         (try clear ho0)
         obtain ⟨Ao55, co55, eo55⟩ := Kd.R_slice HO127.out
         (first | subst eo55 | (injection eo55 with f1_ f2_ f3_; have f4_ := f1_.symm; have f5_ := f3_.symm; clear f1_ f2_ f3_; subst f4_; subst f5_))
         obtain ⟨Ao56, co56, eo56⟩ := Kd.R_slice HO130.out
         (first | subst eo56 | (injection eo56 with f1_ f2_ f3_; have f4_ := f1_.symm; have f5_ := f3_.symm; clear f1_ f2_ f3_; subst f4_; subst f5_))
         refine hK.out _ _ ⟨(blk_cell BK113.out 0).trans rfl, (blk_cell BK113.out 1).trans rfl, (blk_cell BK114.out 0).trans rfl, (blk_cell BK114.out 1).trans rfl⟩ (fun hHeld => ?_)
         clear hK K
         refine norm_ (a' := ?_) ?_ ?_
         rotate_left
         ·show Act.put _ (some 83) _ = _
          simp only [Act.put, List.setIfInBounds_toArray, List.set_cons_zero, List.set_cons_succ, i64_w, i32_w]
          rfl
         refine one_ (i := 6) (N := some 84) #[true, true, true, true, true, true, true, false] rfl rfl (one_of HT_.out (by kernel_rfl)) (by decide) (fun K hK => ?_)
         refine goes_ Try.func24 (by kernel_rfl) rfl #[.agg #[.slice Ao10 t101.length co10, .slice (some ad124) t104.length co13], .int .u32 t115, .slice Ao55 t125.length co55, .slice Ao56 t128.length co56] (by rfl) rfl rfl (by (try simp only [List.map_toArray, List.map_cons, List.map_nil]); first | done | rfl | (simp only [List.length_drop, List.length_take]; rfl)) ?_
         with_reducible refine (enter_Remember.calls k1 _ _ t101 _ _ t104 t115 _ _ t125 _ _ t128 t131 _ ?side1 ?side2 ?side3 ?side4 ?side5 ?side6 ?side7 ?side8 A47.out).mono ?_
         (case side1 => repeat (first | exact (Kd.R_reads' HO_114000.out).2.2 | (with_reducible refine Kd.C_alloc ?_ _) | (with_reducible refine Kd.C_drewN ?_ _) | (with_reducible refine Kd.C_drew ?_)))
         (case side2 => exact (Kd.R_reads' HO_114000.out).2.1)
         (case side3 => repeat (first | exact (Kd.R_reads' HO_114001.out).2.2 | (with_reducible refine Kd.C_alloc ?_ _) | (with_reducible refine Kd.C_drewN ?_ _) | (with_reducible refine Kd.C_drew ?_)))
         (case side4 => exact (Kd.R_reads' HO_114001.out).2.1)
         (case side5 => repeat (first | exact (Kd.R_reads' HO127.out).2.2 | (with_reducible refine Kd.C_alloc ?_ _) | (with_reducible refine Kd.C_drewN ?_ _) | (with_reducible refine Kd.C_drew ?_)))
         (case side6 => exact (Kd.R_reads' HO127.out).2.1)
         (case side7 => repeat (first | exact (Kd.R_reads' HO130.out).2.2 | (with_reducible refine Kd.C_alloc ?_ _) | (with_reducible refine Kd.C_drewN ?_ _) | (with_reducible refine Kd.C_drew ?_)))
         (case side8 => exact (Kd.R_reads' HO130.out).2.1)
         rintro e w57 ⟨v132, rfl, ho0, hb⟩
         refine ⟨_, rfl, ?_⟩
         have n0_ := Aside0.mk (Kd.R_below (by (with_reducible repeat (first | apply Kd.R_alloc | apply Kd.R_drewN | apply Kd.R_drew)); exact HO_12.out) hb)
         have n1_ := Aside0.mk (Kd.R_below (by (with_reducible repeat (first | apply Kd.R_alloc | apply Kd.R_drewN | apply Kd.R_drew)); exact HO_114000.out) hb)
         have n2_ := Aside0.mk (Kd.R_below (by (with_reducible repeat (first | apply Kd.R_alloc | apply Kd.R_drewN | apply Kd.R_drew)); exact HO_114001.out) hb)
         have n3_ := Aside0.mk (Kd.R_below (by (with_reducible repeat (first | apply Kd.R_alloc | apply Kd.R_drewN | apply Kd.R_drew)); exact HO_115000.out) hb)
         have n4_ := Aside0.mk (Kd.R_below (by (with_reducible repeat (first | apply Kd.R_alloc | apply Kd.R_drewN | apply Kd.R_drew)); exact HO_115001.out) hb)
         have n5_ := Aside0.mk (Kd.R_below (by (with_reducible repeat (first | apply Kd.R_alloc | apply Kd.R_drewN | apply Kd.R_drew)); exact HO127.out) hb)
         have n6_ := Aside0.mk (Kd.R_elder' (by (with_reducible repeat (first | apply Kd.R_alloc | apply Kd.R_drewN | apply Kd.R_drew)); exact HO130.out) (Kd.R_base ho0) hb)
         have n7_ := Aside0.mk (Kd.R_lower (Kd.R_new' ho0 (Kd.R_lt (by (with_reducible repeat (first | apply Kd.R_alloc | apply Kd.R_drewN | apply Kd.R_drew)); exact HO130.out))) (below_size (by repeat (first | (with_reducible first | exact HB.out | apply below_alloc | apply pw_below_drewN | apply below_drew1 | refine below_set ?_ GE113.out | refine below_set ?_ GE114.out) | exact HB.out))))
         have n8_ := Aside0.mk (blk_below (g := gb113) (o := .cells #[.slice Ao10 t101.length co10, .slice (some ad124) t104.length co13] 24 (0, 0)) (by (with_reducible repeat (first | refine blk_drewN ?_ _ | refine blk_drew ?_ | refine blk_alloc ?_ _)); exact BK113.out) hb)
         have n9_ := Aside0.mk (blk_below (g := gb114) (o := .cells #[.slice Ao14 t107.length co14, .slice Ao16 t110.length co16] 25 (0, 0)) (by (with_reducible repeat (first | refine blk_drewN ?_ _ | refine blk_drew ?_ | refine blk_alloc ?_ _)); exact BK114.out) hb)
         have n10_ := Aside0.mk (below_step (by repeat (first | (with_reducible first | exact HB.out | apply below_alloc | apply pw_below_drewN | apply below_drew1 | refine below_set ?_ GE113.out | refine below_set ?_ GE114.out) | exact HB.out)) hb)
         clear HO_12
         clear HO_114000
         clear HO_114001
         clear HO_115000
         clear HO_115001
         clear HO127
         clear HO130
         clear BK113
         clear BK114
         clear HB
         have HO_12 := n0_
         have HO_114000 := n1_
         have HO_114001 := n2_
         have HO_115000 := n3_
         have HO_115001 := n4_
         have HO127 := n5_
         have HO130 := n6_
         have HO133 := n7_
         have BK113 := n8_
         have BK114 := n9_
         have HB := n10_
         clear n0_ n1_ n2_ n3_ n4_ n5_ n6_ n7_ n8_ n9_ n10_
         (try clear hb)
         (try clear hb2)
         (try clear hk)
         (try clear hi)
         (try clear ho0)
         refine hK.out _ _ ⟨(blk_cell BK113.out 0).trans rfl, (blk_cell BK113.out 1).trans rfl, (blk_cell BK114.out 0).trans rfl, (blk_cell BK114.out 1).trans rfl⟩ (fun hHeld => ?_)
         clear hK K
         refine norm_ (a' := ?_) ?_ ?_
         rotate_left
         ·show Act.put _ (some 84) _ = _
          simp only [Act.put, List.setIfInBounds_toArray, List.set_cons_zero, List.set_cons_succ, i64_w, i32_w]
          rfl
         refine pure_ (i := 7) (N := some 17) (v := ?_) (a' := ?_) #[true, true, true, true, true, true, true, true] rfl rfl (any_of HT_.out (by kernel_rfl)) (fun _ _ _ h => h) (Or.inl ⟨by rfl, ?_⟩) ?_ ?_
         rotate_left
         ·intro w'
          go_simp
          with_reducible rfl
         rotate_left
         ·simp only [Act.put, List.setIfInBounds_toArray, List.set_cons_zero, List.set_cons_succ, i64_w, i32_w]
          rfl
         refine done_ (done_of HT_.out (by kernel_rfl)) ?_
         go_upto_region 16 with (fail)
         go_cut [96] (fun v96 wc => ∃ (kq : Nat) (x96_47 : Bool), v96 = .bool x96_47 ∧ Aside0 (imprimaturlaw07_EnterBack.j1 kq t115 (rd x12_1 t122) (rd t104 (rd x12_1 t122)) t131 x96_47 t101 t104 = some r) ∧ Aside0 (kq ≤ k1) ∧ Aside0 (Kd.R (Kd.int .u32) 29 wc w.heap.size (fun _ => True) v132 t131) ∧ Aside0 (Kd.R (Kd.int .i64) 3 wc w.heap.size (fun k_ => some k_ ≠ ((.slice (some ad124) t104.length co13) : Value).ownBlock ∧ some k_ ≠ ((.slice Ao14 t107.length co14) : Value).ownBlock ∧ some k_ ≠ ((.slice Ao16 t110.length co16) : Value).ownBlock) (.slice Ao10 t101.length co10) t101) ∧ Aside0 (Kd.R (Kd.int .i64) 3 wc w.heap.size (fun k_ => some k_ ≠ ((.slice Ao10 t101.length co10) : Value).ownBlock ∧ some k_ ≠ ((.slice Ao14 t107.length co14) : Value).ownBlock ∧ some k_ ≠ ((.slice Ao16 t110.length co16) : Value).ownBlock) (.slice (some ad124) t104.length co13) t104) ∧ Aside0 (Kd.R (Kd.int .i64) 3 wc w.heap.size (fun k_ => some k_ ≠ ((.slice Ao10 t101.length co10) : Value).ownBlock ∧ some k_ ≠ ((.slice (some ad124) t104.length co13) : Value).ownBlock ∧ some k_ ≠ ((.slice Ao16 t110.length co16) : Value).ownBlock) (.slice Ao14 t107.length co14) t107) ∧ Aside0 (Kd.R (Kd.int .i64) 3 wc w.heap.size (fun k_ => some k_ ≠ ((.slice Ao10 t101.length co10) : Value).ownBlock ∧ some k_ ≠ ((.slice (some ad124) t104.length co13) : Value).ownBlock ∧ some k_ ≠ ((.slice Ao14 t107.length co14) : Value).ownBlock) (.slice Ao16 t110.length co16) t110) ∧ Aside0 (wc.heap[gb113]? = some (.cells #[(.slice Ao10 t101.length co10), (.slice (some ad124) t104.length co13)] 24 (0, 0))) ∧ Aside0 (wc.heap[gb114]? = some (.cells #[(.slice Ao14 t107.length co14), (.slice Ao16 t110.length co16)] 25 (0, 0))) ∧ Aside0 (Below w.heap.size w wc))
         case first =>
          have H := HC48.out
          clear HC48
          by_cases c58 : (t131.length : Int) = (t101.length : Int)
          ·rw [if_pos c58] at H
           have c58b0 : ((t131.length : Int) == (t101.length : Int)) = true := beq_iff_eq.mpr c58
           have c58b1 : ((t131.length : Int) != (t101.length : Int)) = false := bne_eq_false_iff_eq.mpr c58
           have c58b2 : (t131.length == t101.length) = true := by first | simpa using c58 | (simp at c58 ⊢; omega)
           clear c58
           (first | rw [c58b0] | (simp only [i64_w, i32_w]; rw [c58b0]) | skip)
           replace H := Option.bind_eq_some_iff.mp H
           obtain ⟨t134, A590, H⟩ := H
           replace H : (imprimaturlaw07_EnterBack.j1 k1 t115 (rd x12_1 t122) (rd t104 (rd x12_1 t122)) t131 (t134 != t115) t101 t104) = some r := H
           have A59 := Aside0.mk A590
           clear A590
           have H' := Aside0.mk H
           clear H
           obtain ⟨Ao60, co60, eo60⟩ := Kd.R_slice HO133.out
           subst eo60
           have hnb61 := NB113_114.out
           have hnc61 := NB114_113.out
           have hcz62_0 : w57.cell? ⟨gb113, 0, none⟩ = some (.slice Ao10 t101.length co10) := (blk_cell BK113.out 0).trans rfl
           have hcz62_1 : w57.cell? ⟨gb113, 1, none⟩ = some (.slice (some ad124) t104.length co13) := (blk_cell BK113.out 1).trans rfl
           have hfz62_0 := blk_frozen BK113.out 0
           have hfz62_1 := blk_frozen BK113.out 1
           go_wp2_with (first | (go_at_call 26; (with_reducible refine (imprimaturlaw07_bits.calls k1 _ _ t125 t134 _ ?side1 ?side2 A59.out).mono ?_); (case side1 => repeat (first | exact (Kd.R_reads' HO127.out).2.2 | (with_reducible refine Kd.C_alloc ?_ _) | (with_reducible refine Kd.C_drewN ?_ _) | (with_reducible refine Kd.C_drew ?_))); (case side2 => exact (Kd.R_reads' HO127.out).2.1); rintro e w' ⟨rfl, ⟨nd, rfl⟩⟩))
           go_meet
           case rel => exact ⟨_, ((t134 != t115)), (by first | rfl | (simp; done) | (simp [*]; done)), H', ⟨by have := HK1.out; first | omega | exact Nat.le_refl _⟩, ⟨by (with_reducible repeat (first | apply Kd.R_alloc | apply Kd.R_drewN | apply Kd.R_drew)); exact Kd.R_mono HO133.out (fun _ hk => trivial)⟩, ⟨by (with_reducible repeat (first | apply Kd.R_alloc | apply Kd.R_drewN | apply Kd.R_drew)); exact Kd.R_mono HO_114000.out (fun _ hk => ⟨hk.1.2.1, ⟨hk.1.2.2.1, hk.1.2.2.2⟩⟩)⟩, ⟨by (with_reducible repeat (first | apply Kd.R_alloc | apply Kd.R_drewN | apply Kd.R_drew)); exact Kd.R_mono HO_114001.out (fun _ hk => ⟨hk.1.2.1, ⟨hk.1.2.2.1, hk.1.2.2.2⟩⟩)⟩, ⟨by (with_reducible repeat (first | apply Kd.R_alloc | apply Kd.R_drewN | apply Kd.R_drew)); exact Kd.R_mono HO_115000.out (fun _ hk => ⟨hk.1.2.1, ⟨hk.1.2.2.1, hk.1.2.2.2⟩⟩)⟩, ⟨by (with_reducible repeat (first | apply Kd.R_alloc | apply Kd.R_drewN | apply Kd.R_drew)); exact Kd.R_mono HO_115001.out (fun _ hk => ⟨hk.1.2.1, ⟨hk.1.2.2.1, hk.1.2.2.2⟩⟩)⟩, ⟨by (with_reducible repeat (first | refine blk_drewN ?_ _ | refine blk_drew ?_ | refine blk_alloc ?_ _)); exact BK113.out⟩, ⟨by (with_reducible repeat (first | refine blk_drewN ?_ _ | refine blk_drew ?_ | refine blk_alloc ?_ _)); exact BK114.out⟩, ⟨by repeat (first | (with_reducible first | exact HB.out | apply below_alloc | apply pw_below_drewN | apply below_drew1 | refine below_set ?_ GE113.out | refine below_set ?_ GE114.out) | exact HB.out)⟩⟩
          ·rw [if_neg c58] at H
           have c58b0 : ((t131.length : Int) == (t101.length : Int)) = false := beq_eq_false_iff_ne.mpr c58
           have c58b1 : ((t131.length : Int) != (t101.length : Int)) = true := bne_iff_ne.mpr c58
           have c58b2 : (t131.length == t101.length) = false := by first | simpa using c58 | (simp at c58 ⊢; omega)
           (first | rw [c58b0] | (simp only [i64_w, i32_w]; rw [c58b0]) | skip)
           have H' := Aside0.mk H
           clear H
           obtain ⟨Ao63, co63, eo63⟩ := Kd.R_slice HO133.out
           subst eo63
           have hnb64 := NB113_114.out
           have hnc64 := NB114_113.out
           have hcz65_0 : w57.cell? ⟨gb113, 0, none⟩ = some (.slice Ao10 t101.length co10) := (blk_cell BK113.out 0).trans rfl
           have hcz65_1 : w57.cell? ⟨gb113, 1, none⟩ = some (.slice (some ad124) t104.length co13) := (blk_cell BK113.out 1).trans rfl
           have hfz65_0 := blk_frozen BK113.out 0
           have hfz65_1 := blk_frozen BK113.out 1
           go_wp2
           go_meet
           case rel => exact ⟨_, (true), (by first | rfl | (simp; done) | (simp [*]; done)), H', ⟨by have := HK1.out; first | omega | exact Nat.le_refl _⟩, ⟨by (with_reducible repeat (first | apply Kd.R_alloc | apply Kd.R_drewN | apply Kd.R_drew)); exact Kd.R_mono HO133.out (fun _ hk => trivial)⟩, ⟨by (with_reducible repeat (first | apply Kd.R_alloc | apply Kd.R_drewN | apply Kd.R_drew)); exact Kd.R_mono HO_114000.out (fun _ hk => ⟨hk.1.2.1, ⟨hk.1.2.2.1, hk.1.2.2.2⟩⟩)⟩, ⟨by (with_reducible repeat (first | apply Kd.R_alloc | apply Kd.R_drewN | apply Kd.R_drew)); exact Kd.R_mono HO_114001.out (fun _ hk => ⟨hk.1.2.1, ⟨hk.1.2.2.1, hk.1.2.2.2⟩⟩)⟩, ⟨by (with_reducible repeat (first | apply Kd.R_alloc | apply Kd.R_drewN | apply Kd.R_drew)); exact Kd.R_mono HO_115000.out (fun _ hk => ⟨hk.1.2.1, ⟨hk.1.2.2.1, hk.1.2.2.2⟩⟩)⟩, ⟨by (with_reducible repeat (first | apply Kd.R_alloc | apply Kd.R_drewN | apply Kd.R_drew)); exact Kd.R_mono HO_115001.out (fun _ hk => ⟨hk.1.2.1, ⟨hk.1.2.2.1, hk.1.2.2.2⟩⟩)⟩, ⟨by (with_reducible repeat (first | refine blk_drewN ?_ _ | refine blk_drew ?_ | refine blk_alloc ?_ _)); exact BK113.out⟩, ⟨by (with_reducible repeat (first | refine blk_drewN ?_ _ | refine blk_drew ?_ | refine blk_alloc ?_ _)); exact BK114.out⟩, ⟨by repeat (first | (with_reducible first | exact HB.out | apply below_alloc | apply pw_below_drewN | apply below_drew1 | refine below_set ?_ GE113.out | refine below_set ?_ GE114.out) | exact HB.out)⟩⟩
         case rest =>
          clear HC48
          try clear c1
          try clear p1
          try clear q1
          try clear hx1
          try clear c2
          try clear p2
          try clear c3
          try clear c4
          try clear c5
          try clear c6
          try clear p6
          try clear c11
          try clear p11
          try clear q11
          try clear hx11
          try clear p12
          try clear q12
          try clear hx12
          try clear c13
          try clear c18
          try clear c19
          try clear c19b0
          try clear c20
          try clear c20b0
          try clear c21
          try clear c21b0
          try clear c22
          try clear c22b0
          try clear c23
          try clear c23b0
          try clear c24
          try clear c25
          try clear c25b0
          try clear c25b1
          try clear c27
          try clear c27b0
          try clear c27b1
          try clear c28
          try clear c29
          try clear c32
          try clear c34
          try clear c36
          try clear c36b0
          try clear c36b1
          try clear c36b2
          try clear c41
          try clear c41b0
          try clear c42
          try clear c42b0
          try clear c43
          try clear c43b0
          try clear c44
          try clear c44b0
          try clear c50
          try clear c58
          try clear c58b0
          try clear c58b1
          try clear c58b2
          try clear c61
          try clear c64
          try clear p64
          try clear hcz12_0
          try clear hcz12_1
          try clear hcz15_0
          try clear hcz15_1
          try clear hcz18_0
          try clear hcz18_1
          try clear hcz30_0
          try clear hcz30_1
          try clear hcz33_0
          try clear hcz33_1
          try clear hcz35_0
          try clear hcz35_1
          try clear hcz51_0
          try clear hcz51_1
          try clear hcz62_0
          try clear hcz62_1
          try clear hcz65_0
          try clear hcz65_1
          try clear hfz12_0
          try clear hfz12_1
          try clear hfz15_0
          try clear hfz15_1
          try clear hfz18_0
          try clear hfz18_1
          try clear hfz30_0
          try clear hfz30_1
          try clear hfz33_0
          try clear hfz33_1
          try clear hfz35_0
          try clear hfz35_1
          try clear hfz51_0
          try clear hfz51_1
          try clear hfz62_0
          try clear hfz62_1
          try clear hfz65_0
          try clear hfz65_1
          try clear hx116_0
          try clear hx117_0
          try clear hx123_0
          try clear hx124_0
          try clear p116
          try clear p117
          try clear p123
          try clear p124
          try clear p2
          try clear q116
          try clear q117
          try clear q123
          try clear q124
          obtain ⟨kq, x96_47, rfl, HA, HJ47, HO_17, HO_114000, HO_114001, HO_115000, HO_115001, BK113, BK114, HB⟩ := hcut
          cases kq with
          | zero => exact absurd HA.out (by simp [imprimaturlaw07_EnterBack.j1])
          | succ kj47 =>
           have H := HA.out
           clear HA
           simp only [imprimaturlaw07_EnterBack.j1] at H
           by_cases c66 : x96_47 = true
           ·subst c66
            have H1 : (some false) = some r := by rw [if_pos rfl] at H; exact H
            clear H
            have H := H1
            clear H1
            obtain rfl := Option.some.inj H
            go_wp2
            go_ret
            exact ⟨by first | rfl | (simp [errW_none, errW_some] <;> rfl) | (simp [*, errW_none, errW_some] <;> rfl), by repeat (first | (with_reducible first | exact HB.out | apply below_alloc | apply pw_below_drewN | apply below_drew1 | refine below_set ?_ GE113.out | refine below_set ?_ GE114.out) | exact HB.out)⟩
           ·replace c66 := Bool.eq_false_iff.mpr c66
            subst c66
            have H1 : ((enter_Enter.f t101 t104 (-1) (rd x12_1 t122) t131).bind fun t135 => ((imprimaturlaw07_bits.f kj47 t135).bind fun t138 => (imprimaturlaw07_EnterBack.l1 kj47 t115 (rd x12_1 t122) (rd t104 (rd x12_1 t122)) t138 (t101.length : Int) 0 t101 t104))) = some r := by rw [if_neg (show ¬ (false = true) by decide)] at H; exact H
            clear H
            have H := H1
            clear H1
            replace H := Option.bind_eq_some_iff.mp H
            obtain ⟨t135, A670, H⟩ := H
            replace H : ((imprimaturlaw07_bits.f kj47 t135).bind fun t138 => (imprimaturlaw07_EnterBack.l1 kj47 t115 (rd x12_1 t122) (rd t104 (rd x12_1 t122)) t138 (t101.length : Int) 0 t101 t104)) = some r := H
            have A67 := Aside0.mk A670
            clear A670
            replace H := Option.bind_eq_some_iff.mp H
            obtain ⟨t138, A680, H⟩ := H
            replace H : (imprimaturlaw07_EnterBack.l1 kj47 t115 (rd x12_1 t122) (rd t104 (rd x12_1 t122)) t138 (t101.length : Int) 0 t101 t104) = some r := H
            have A68 := Aside0.mk A680
            clear A680
            have H' := Aside0.mk H
            clear H
            have hnb69 := NB113_114.out
            have hnc69 := NB114_113.out
            have hcz70_0 : wc.cell? ⟨gb113, 0, none⟩ = some (.slice Ao10 t101.length co10) := (blk_cell BK113.out 0).trans rfl
            have hcz70_1 : wc.cell? ⟨gb113, 1, none⟩ = some (.slice (some ad124) t104.length co13) := (blk_cell BK113.out 1).trans rfl
            have hfz70_0 := blk_frozen BK113.out 0
            have hfz70_1 := blk_frozen BK113.out 1
            obtain ⟨Ao71, co71, eo71⟩ := Kd.R_slice HO_17.out
            subst eo71
            go_wp2_with (first | ((with_reducible refine gate_callee (f := 33) rfl ?_); refine goesL_ (some 100) rfl rfl Try.func33 (by kernel_rfl) rfl #[.agg #[.slice Ao10 t101.length co10, .slice (some ad124) t104.length co13], .int .i64 (-1), .int .i64 (rd x12_1 t122), .slice Ao71 t131.length co71] rfl (by (try simp only [List.map_toArray, List.map_cons, List.map_nil]); first | done | rfl | (simp only [List.length_drop, List.length_take]; rfl)) ?_; (with_reducible refine (enter_Enter.calls _ _ t101 _ _ t104 (-1) (rd x12_1 t122) _ _ t131 t135 _ ?side1 ?side2 ?side3 ?side4 ?side5 ?side6 A67.out).mono ?_); (case side1 => repeat (first | exact (Kd.R_reads' HO_114000.out).2.2 | (with_reducible refine Kd.C_alloc ?_ _) | (with_reducible refine Kd.C_drewN ?_ _) | (with_reducible refine Kd.C_drew ?_))); (case side2 => exact (Kd.R_reads' HO_114000.out).2.1); (case side3 => repeat (first | exact (Kd.R_reads' HO_114001.out).2.2 | (with_reducible refine Kd.C_alloc ?_ _) | (with_reducible refine Kd.C_drewN ?_ _) | (with_reducible refine Kd.C_drew ?_))); (case side4 => exact (Kd.R_reads' HO_114001.out).2.1); (case side5 => repeat (first | exact (Kd.R_reads' HO_17.out).2.2 | (with_reducible refine Kd.C_alloc ?_ _) | (with_reducible refine Kd.C_drewN ?_ _) | (with_reducible refine Kd.C_drew ?_))); (case side6 => exact (Kd.R_reads' HO_17.out).2.1); rintro e w72 ⟨v136, rfl, ho0, hb⟩; refine ⟨_, rfl, ?_⟩; have n0_ := Aside0.mk (Kd.R_below (by (with_reducible repeat (first | apply Kd.R_alloc | apply Kd.R_drewN | apply Kd.R_drew)); exact HO_17.out) hb); have n1_ := Aside0.mk (Kd.R_elder' (by (with_reducible repeat (first | apply Kd.R_alloc | apply Kd.R_drewN | apply Kd.R_drew)); exact HO_114000.out) (Kd.R_base ho0) hb); have n2_ := Aside0.mk (Kd.R_elder' (by (with_reducible repeat (first | apply Kd.R_alloc | apply Kd.R_drewN | apply Kd.R_drew)); exact HO_114001.out) (Kd.R_base ho0) hb); have n3_ := Aside0.mk (Kd.R_elder' (by (with_reducible repeat (first | apply Kd.R_alloc | apply Kd.R_drewN | apply Kd.R_drew)); exact HO_115000.out) (Kd.R_base ho0) hb); have n4_ := Aside0.mk (Kd.R_elder' (by (with_reducible repeat (first | apply Kd.R_alloc | apply Kd.R_drewN | apply Kd.R_drew)); exact HO_115001.out) (Kd.R_base ho0) hb); have n5_ := Aside0.mk (Kd.R_lower (Kd.R_new' (Kd.R_new' (Kd.R_new' (Kd.R_new' ho0 (Kd.R_lt (by (with_reducible repeat (first | apply Kd.R_alloc | apply Kd.R_drewN | apply Kd.R_drew)); exact HO_114000.out))) (Kd.R_lt (by (with_reducible repeat (first | apply Kd.R_alloc | apply Kd.R_drewN | apply Kd.R_drew)); exact HO_114001.out))) (Kd.R_lt (by (with_reducible repeat (first | apply Kd.R_alloc | apply Kd.R_drewN | apply Kd.R_drew)); exact HO_115000.out))) (Kd.R_lt (by (with_reducible repeat (first | apply Kd.R_alloc | apply Kd.R_drewN | apply Kd.R_drew)); exact HO_115001.out))) (below_size (by repeat (first | (with_reducible first | exact HB.out | apply below_alloc | apply pw_below_drewN | apply below_drew1 | refine below_set ?_ GE113.out | refine below_set ?_ GE114.out) | exact HB.out)))); have n6_ := Aside0.mk (blk_below (g := gb113) (o := .cells #[.slice Ao10 t101.length co10, .slice (some ad124) t104.length co13] 24 (0, 0)) (by (with_reducible repeat (first | refine blk_drewN ?_ _ | refine blk_drew ?_ | refine blk_alloc ?_ _)); exact BK113.out) hb); have n7_ := Aside0.mk (blk_below (g := gb114) (o := .cells #[.slice Ao14 t107.length co14, .slice Ao16 t110.length co16] 25 (0, 0)) (by (with_reducible repeat (first | refine blk_drewN ?_ _ | refine blk_drew ?_ | refine blk_alloc ?_ _)); exact BK114.out) hb); have n8_ := Aside0.mk (below_step (by repeat (first | (with_reducible first | exact HB.out | apply below_alloc | apply pw_below_drewN | apply below_drew1 | refine below_set ?_ GE113.out | refine below_set ?_ GE114.out) | exact HB.out)) hb); clear HO_17; clear HO_114000; clear HO_114001; clear HO_115000; clear HO_115001; clear BK113; clear BK114; clear HB; have HO_17 := n0_; have HO_114000 := n1_; have HO_114001 := n2_; have HO_115000 := n3_; have HO_115001 := n4_; have HO137 := n5_; have BK113 := n6_; have BK114 := n7_; have HB := n8_; clear n0_ n1_ n2_ n3_ n4_ n5_ n6_ n7_ n8_; (try clear hb); (try clear hb2); (try clear hk); (try clear hi); (try clear ho0); obtain ⟨Ao73, co73, eo73⟩ := Kd.R_slice HO137.out; subst eo73) | ((with_reducible refine gate_callee (f := 26) rfl ?_); refine goesL_ (some 101) rfl rfl Try.func26 (by kernel_rfl) rfl #[.slice Ao73 t135.length co73] rfl (by (try simp only [List.map_toArray, List.map_cons, List.map_nil]); first | done | rfl | (simp only [List.length_drop, List.length_take]; rfl)) ?_; (with_reducible refine (imprimaturlaw07_bits.calls kj47 _ _ t135 t138 _ ?side1 ?side2 A68.out).mono ?_); (case side1 => repeat (first | exact (Kd.R_reads' HO137.out).2.2 | (with_reducible refine Kd.C_alloc ?_ _) | (with_reducible refine Kd.C_drewN ?_ _) | (with_reducible refine Kd.C_drew ?_))); (case side2 => exact (Kd.R_reads' HO137.out).2.1); rintro e w' ⟨rfl, ⟨nd, rfl⟩⟩; refine ⟨_, rfl, ?_⟩; have hcz74_0 : w72.cell? ⟨gb113, 0, none⟩ = some (.slice Ao10 t101.length co10) := (blk_cell BK113.out 0).trans rfl; have hcz74_1 : w72.cell? ⟨gb113, 1, none⟩ = some (.slice (some ad124) t104.length co13) := (blk_cell BK113.out 1).trans rfl; have hfz74_0 := blk_frozen BK113.out 0; have hfz74_1 := blk_frozen BK113.out 1))
            go_loopg [105] kj47 (fun kq v105 w' => ∃ (x105_3 : Int), v105 = .int .i64 x105_3 ∧ Aside0 (imprimaturlaw07_EnterBack.l1 kq t115 (rd x12_1 t122) (rd t104 (rd x12_1 t122)) t138 (t101.length : Int) x105_3 t101 t104 = some r) ∧ Aside0 (kq ≤ kj47) ∧ Aside0 (Kd.R (Kd.int .i64) 3 w' w.heap.size (fun k_ => some k_ ≠ ((.slice (some ad124) t104.length co13) : Value).ownBlock ∧ some k_ ≠ ((.slice Ao14 t107.length co14) : Value).ownBlock ∧ some k_ ≠ ((.slice Ao16 t110.length co16) : Value).ownBlock) (.slice Ao10 t101.length co10) t101) ∧ Aside0 (Kd.R (Kd.int .i64) 3 w' w.heap.size (fun k_ => some k_ ≠ ((.slice Ao10 t101.length co10) : Value).ownBlock ∧ some k_ ≠ ((.slice Ao14 t107.length co14) : Value).ownBlock ∧ some k_ ≠ ((.slice Ao16 t110.length co16) : Value).ownBlock) (.slice (some ad124) t104.length co13) t104) ∧ Aside0 (Kd.R (Kd.int .i64) 3 w' w.heap.size (fun k_ => some k_ ≠ ((.slice Ao10 t101.length co10) : Value).ownBlock ∧ some k_ ≠ ((.slice (some ad124) t104.length co13) : Value).ownBlock ∧ some k_ ≠ ((.slice Ao16 t110.length co16) : Value).ownBlock) (.slice Ao14 t107.length co14) t107) ∧ Aside0 (Kd.R (Kd.int .i64) 3 w' w.heap.size (fun k_ => some k_ ≠ ((.slice Ao10 t101.length co10) : Value).ownBlock ∧ some k_ ≠ ((.slice (some ad124) t104.length co13) : Value).ownBlock ∧ some k_ ≠ ((.slice Ao14 t107.length co14) : Value).ownBlock) (.slice Ao16 t110.length co16) t110) ∧ Aside0 (w'.heap[gb113]? = some (.cells #[(.slice Ao10 t101.length co10), (.slice (some ad124) t104.length co13)] 24 (0, 0))) ∧ Aside0 (w'.heap[gb114]? = some (.cells #[(.slice Ao14 t107.length co14), (.slice Ao16 t110.length co16)] 25 (0, 0))) ∧ Aside0 (Below w.heap.size w w'))
            case atStart => exact ⟨(0), (by first | rfl | (simp; done) | (simp [*]; done)), H', ⟨Nat.le_refl _⟩, ⟨by (with_reducible repeat (first | apply Kd.R_alloc | apply Kd.R_drewN | apply Kd.R_drew)); exact Kd.R_mono HO_114000.out (fun _ hk => ⟨hk.1.1, ⟨hk.1.2.1, hk.1.2.2⟩⟩)⟩, ⟨by (with_reducible repeat (first | apply Kd.R_alloc | apply Kd.R_drewN | apply Kd.R_drew)); exact Kd.R_mono HO_114001.out (fun _ hk => ⟨hk.1.1, ⟨hk.1.2.1, hk.1.2.2⟩⟩)⟩, ⟨by (with_reducible repeat (first | apply Kd.R_alloc | apply Kd.R_drewN | apply Kd.R_drew)); exact Kd.R_mono HO_115000.out (fun _ hk => ⟨hk.1.1, ⟨hk.1.2.1, hk.1.2.2⟩⟩)⟩, ⟨by (with_reducible repeat (first | apply Kd.R_alloc | apply Kd.R_drewN | apply Kd.R_drew)); exact Kd.R_mono HO_115001.out (fun _ hk => ⟨hk.1.1, ⟨hk.1.2.1, hk.1.2.2⟩⟩)⟩, ⟨by (with_reducible repeat (first | refine blk_drewN ?_ _ | refine blk_drew ?_ | refine blk_alloc ?_ _)); exact BK113.out⟩, ⟨by (with_reducible repeat (first | refine blk_drewN ?_ _ | refine blk_drew ?_ | refine blk_alloc ?_ _)); exact BK114.out⟩, ⟨by repeat (first | (with_reducible first | exact HB.out | apply below_alloc | apply pw_below_drewN | apply below_drew1 | refine below_set ?_ GE113.out | refine below_set ?_ GE114.out) | exact HB.out)⟩⟩
            case round =>
             clear H'
             try clear c1
             try clear p1
             try clear q1
             try clear hx1
             try clear c2
             try clear p2
             try clear c3
             try clear c4
             try clear c5
             try clear c6
             try clear p6
             try clear c11
             try clear p11
             try clear q11
             try clear hx11
             try clear p12
             try clear q12
             try clear hx12
             try clear c13
             try clear c18
             try clear c19
             try clear c19b0
             try clear c20
             try clear c20b0
             try clear c21
             try clear c21b0
             try clear c22
             try clear c22b0
             try clear c23
             try clear c23b0
             try clear c24
             try clear c25
             try clear c25b0
             try clear c25b1
             try clear c26
             try clear c27
             try clear c27b0
             try clear c27b1
             try clear c28
             try clear c29
             try clear c32
             try clear c33
             try clear c34
             try clear c36
             try clear c36b0
             try clear c36b1
             try clear c36b2
             try clear c41
             try clear c41b0
             try clear c42
             try clear c42b0
             try clear c43
             try clear c43b0
             try clear c44
             try clear c44b0
             try clear c50
             try clear c58
             try clear c58b0
             try clear c58b1
             try clear c58b2
             try clear c61
             try clear c64
             try clear p64
             try clear c66
             try clear c69
             try clear hcz12_0
             try clear hcz12_1
             try clear hcz15_0
             try clear hcz15_1
             try clear hcz18_0
             try clear hcz18_1
             try clear hcz30_0
             try clear hcz30_1
             try clear hcz33_0
             try clear hcz33_1
             try clear hcz35_0
             try clear hcz35_1
             try clear hcz51_0
             try clear hcz51_1
             try clear hcz62_0
             try clear hcz62_1
             try clear hcz65_0
             try clear hcz65_1
             try clear hcz70_0
             try clear hcz70_1
             try clear hcz74_0
             try clear hcz74_1
             try clear hfz12_0
             try clear hfz12_1
             try clear hfz15_0
             try clear hfz15_1
             try clear hfz18_0
             try clear hfz18_1
             try clear hfz30_0
             try clear hfz30_1
             try clear hfz33_0
             try clear hfz33_1
             try clear hfz35_0
             try clear hfz35_1
             try clear hfz51_0
             try clear hfz51_1
             try clear hfz62_0
             try clear hfz62_1
             try clear hfz65_0
             try clear hfz65_1
             try clear hfz70_0
             try clear hfz70_1
             try clear hfz74_0
             try clear hfz74_1
             try clear hx116_0
             try clear hx117_0
             try clear hx123_0
             try clear hx124_0
             try clear p1
             try clear p11
             try clear p116
             try clear p117
             try clear p12
             try clear p123
             try clear p124
             try clear p2
             try clear p6
             try clear p64
             try clear q1
             try clear q11
             try clear q116
             try clear q117
             try clear q12
             try clear q123
             try clear q124
             obtain ⟨x105_3, rfl, HA, HK3, HO_114000, HO_114001, HO_115000, HO_115001, BK113, BK114, HB⟩ := hrel
             cases gk with
             | zero => exact absurd HA.out (by simp [imprimaturlaw07_EnterBack.l1])
             | succ k3 =>
              have H := HA.out
              clear HA
              simp only [imprimaturlaw07_EnterBack.l1] at H
              by_cases c75 : x105_3 < (t101.length : Int)
              ·rw [if_pos c75] at H
               have c75b0 : decide (x105_3 < (t101.length : Int)) = true := decide_eq_true c75
               clear c75
               have HC76 := Aside0.mk H
               clear H
               go_upto_region 22 with (fail)
               go_cut [117] (fun v117 wc => ∃ (kq : Nat) (x117_75 : Bool), v117 = .bool x117_75 ∧ Aside0 (imprimaturlaw07_EnterBack.j3 kq t115 (rd x12_1 t122) (rd t104 (rd x12_1 t122)) t138 x105_3 (t101.length : Int) x105_3 x117_75 t101 t104 = some r) ∧ Aside0 (kq ≤ k3) ∧ Aside0 (Kd.R (Kd.int .i64) 3 wc w.heap.size (fun k_ => some k_ ≠ ((.slice (some ad124) t104.length co13) : Value).ownBlock ∧ some k_ ≠ ((.slice Ao14 t107.length co14) : Value).ownBlock ∧ some k_ ≠ ((.slice Ao16 t110.length co16) : Value).ownBlock) (.slice Ao10 t101.length co10) t101) ∧ Aside0 (Kd.R (Kd.int .i64) 3 wc w.heap.size (fun k_ => some k_ ≠ ((.slice Ao10 t101.length co10) : Value).ownBlock ∧ some k_ ≠ ((.slice Ao14 t107.length co14) : Value).ownBlock ∧ some k_ ≠ ((.slice Ao16 t110.length co16) : Value).ownBlock) (.slice (some ad124) t104.length co13) t104) ∧ Aside0 (Kd.R (Kd.int .i64) 3 wc w.heap.size (fun k_ => some k_ ≠ ((.slice Ao10 t101.length co10) : Value).ownBlock ∧ some k_ ≠ ((.slice (some ad124) t104.length co13) : Value).ownBlock ∧ some k_ ≠ ((.slice Ao16 t110.length co16) : Value).ownBlock) (.slice Ao14 t107.length co14) t107) ∧ Aside0 (Kd.R (Kd.int .i64) 3 wc w.heap.size (fun k_ => some k_ ≠ ((.slice Ao10 t101.length co10) : Value).ownBlock ∧ some k_ ≠ ((.slice (some ad124) t104.length co13) : Value).ownBlock ∧ some k_ ≠ ((.slice Ao14 t107.length co14) : Value).ownBlock) (.slice Ao16 t110.length co16) t110) ∧ Aside0 (wc.heap[gb113]? = some (.cells #[(.slice Ao10 t101.length co10), (.slice (some ad124) t104.length co13)] 24 (0, 0))) ∧ Aside0 (wc.heap[gb114]? = some (.cells #[(.slice Ao14 t107.length co14), (.slice Ao16 t110.length co16)] 25 (0, 0))) ∧ Aside0 (Below w.heap.size w wc))
               case first =>
                have H := HC76.out
                clear HC76
                by_cases c77 : x105_3 = (rd t104 (rd x12_1 t122))
                ·rw [if_pos c77] at H
                 have c77b0 : (x105_3 == (rd t104 (rd x12_1 t122))) = true := beq_iff_eq.mpr c77
                 have c77b1 : (x105_3 != (rd t104 (rd x12_1 t122))) = false := bne_eq_false_iff_eq.mpr c77
                 clear c77
                 (first | rw [c77b0] | (simp only [i64_w, i32_w]; rw [c77b0]) | skip)
                 have H' := Aside0.mk H
                 clear H
                 go_wp2
                 go_meet
                 case rel => exact ⟨_, (true), (by first | rfl | (simp; done) | (simp [*]; done)), H', ⟨by have := HK1.out; have := HJ47.out; have := HK3.out; first | omega | exact Nat.le_refl _⟩, ⟨by (with_reducible repeat (first | apply Kd.R_alloc | apply Kd.R_drewN | apply Kd.R_drew)); exact HO_114000.out⟩, ⟨by (with_reducible repeat (first | apply Kd.R_alloc | apply Kd.R_drewN | apply Kd.R_drew)); exact HO_114001.out⟩, ⟨by (with_reducible repeat (first | apply Kd.R_alloc | apply Kd.R_drewN | apply Kd.R_drew)); exact HO_115000.out⟩, ⟨by (with_reducible repeat (first | apply Kd.R_alloc | apply Kd.R_drewN | apply Kd.R_drew)); exact HO_115001.out⟩, ⟨by (with_reducible repeat (first | refine blk_drewN ?_ _ | refine blk_drew ?_ | refine blk_alloc ?_ _)); exact BK113.out⟩, ⟨by (with_reducible repeat (first | refine blk_drewN ?_ _ | refine blk_drew ?_ | refine blk_alloc ?_ _)); exact BK114.out⟩, ⟨by repeat (first | (with_reducible first | exact HB.out | apply below_alloc | apply pw_below_drewN | apply below_drew1 | refine below_set ?_ GE113.out | refine below_set ?_ GE114.out) | exact HB.out)⟩⟩
                ·rw [if_neg c77] at H
                 have c77b0 : (x105_3 == (rd t104 (rd x12_1 t122))) = false := beq_eq_false_iff_ne.mpr c77
                 have c77b1 : (x105_3 != (rd t104 (rd x12_1 t122))) = true := bne_iff_ne.mpr c77
                 (first | rw [c77b0] | (simp only [i64_w, i32_w]; rw [c77b0]) | skip)
                 replace H := Option.bind_eq_some_iff.mp H
                 obtain ⟨t140, A780, H⟩ := H
                 replace H : (imprimaturlaw07_EnterBack.j3 k3 t115 (rd x12_1 t122) (rd t104 (rd x12_1 t122)) t138 x105_3 (t101.length : Int) x105_3 (!t140) t101 t104) = some r := H
                 have A78 := Aside0.mk A780
                 clear A780
                 have H' := Aside0.mk H
                 clear H
                 have hnb79 := NB113_114.out
                 have hnc79 := NB114_113.out
                 have hcz80_0 : wr.cell? ⟨gb113, 0, none⟩ = some (.slice Ao10 t101.length co10) := (blk_cell BK113.out 0).trans rfl
                 have hcz80_1 : wr.cell? ⟨gb113, 1, none⟩ = some (.slice (some ad124) t104.length co13) := (blk_cell BK113.out 1).trans rfl
                 have hfz80_0 := blk_frozen BK113.out 0
                 have hfz80_1 := blk_frozen BK113.out 1
                 go_wp2_with (first | (go_at_call 27; (with_reducible refine (shape_Under.calls k3 _ _ t101 _ _ t104 x105_3 (rd t104 (rd x12_1 t122)) t140 _ ?side1 ?side2 ?side3 ?side4 A78.out).mono ?_); (case side1 => repeat (first | exact (Kd.R_reads' HO_114000.out).2.2 | (with_reducible refine Kd.C_alloc ?_ _) | (with_reducible refine Kd.C_drewN ?_ _) | (with_reducible refine Kd.C_drew ?_))); (case side2 => exact (Kd.R_reads' HO_114000.out).2.1); (case side3 => repeat (first | exact (Kd.R_reads' HO_114001.out).2.2 | (with_reducible refine Kd.C_alloc ?_ _) | (with_reducible refine Kd.C_drewN ?_ _) | (with_reducible refine Kd.C_drew ?_))); (case side4 => exact (Kd.R_reads' HO_114001.out).2.1); rintro e w81 ⟨rfl, hb⟩; have n0_ := Aside0.mk (Kd.R_below (by (with_reducible repeat (first | apply Kd.R_alloc | apply Kd.R_drewN | apply Kd.R_drew)); exact HO_114000.out) hb); have n1_ := Aside0.mk (Kd.R_below (by (with_reducible repeat (first | apply Kd.R_alloc | apply Kd.R_drewN | apply Kd.R_drew)); exact HO_114001.out) hb); have n2_ := Aside0.mk (Kd.R_below (by (with_reducible repeat (first | apply Kd.R_alloc | apply Kd.R_drewN | apply Kd.R_drew)); exact HO_115000.out) hb); have n3_ := Aside0.mk (Kd.R_below (by (with_reducible repeat (first | apply Kd.R_alloc | apply Kd.R_drewN | apply Kd.R_drew)); exact HO_115001.out) hb); have n4_ := Aside0.mk (blk_below (g := gb113) (o := .cells #[.slice Ao10 t101.length co10, .slice (some ad124) t104.length co13] 24 (0, 0)) (by (with_reducible repeat (first | refine blk_drewN ?_ _ | refine blk_drew ?_ | refine blk_alloc ?_ _)); exact BK113.out) hb); have n5_ := Aside0.mk (blk_below (g := gb114) (o := .cells #[.slice Ao14 t107.length co14, .slice Ao16 t110.length co16] 25 (0, 0)) (by (with_reducible repeat (first | refine blk_drewN ?_ _ | refine blk_drew ?_ | refine blk_alloc ?_ _)); exact BK114.out) hb); have n6_ := Aside0.mk (below_step (by repeat (first | (with_reducible first | exact HB.out | apply below_alloc | apply pw_below_drewN | apply below_drew1 | refine below_set ?_ GE113.out | refine below_set ?_ GE114.out) | exact HB.out)) hb); clear HO_114000; clear HO_114001; clear HO_115000; clear HO_115001; clear BK113; clear BK114; clear HB; have HO_114000 := n0_; have HO_114001 := n1_; have HO_115000 := n2_; have HO_115001 := n3_; have BK113 := n4_; have BK114 := n5_; have HB := n6_; clear n0_ n1_ n2_ n3_ n4_ n5_ n6_; (try clear hb); (try clear hb2); (try clear hk); (try clear hi)))
                 go_meet
                 case rel => exact ⟨_, (!t140), (by first | rfl | (simp; done) | (simp [*]; done)), H', ⟨by have := HK1.out; have := HJ47.out; have := HK3.out; first | omega | exact Nat.le_refl _⟩, ⟨by (with_reducible repeat (first | apply Kd.R_alloc | apply Kd.R_drewN | apply Kd.R_drew)); exact HO_114000.out⟩, ⟨by (with_reducible repeat (first | apply Kd.R_alloc | apply Kd.R_drewN | apply Kd.R_drew)); exact HO_114001.out⟩, ⟨by (with_reducible repeat (first | apply Kd.R_alloc | apply Kd.R_drewN | apply Kd.R_drew)); exact HO_115000.out⟩, ⟨by (with_reducible repeat (first | apply Kd.R_alloc | apply Kd.R_drewN | apply Kd.R_drew)); exact HO_115001.out⟩, ⟨by (with_reducible repeat (first | refine blk_drewN ?_ _ | refine blk_drew ?_ | refine blk_alloc ?_ _)); exact BK113.out⟩, ⟨by (with_reducible repeat (first | refine blk_drewN ?_ _ | refine blk_drew ?_ | refine blk_alloc ?_ _)); exact BK114.out⟩, ⟨by repeat (first | (with_reducible first | exact HB.out | apply below_alloc | apply pw_below_drewN | apply below_drew1 | refine below_set ?_ GE113.out | refine below_set ?_ GE114.out) | exact HB.out)⟩⟩
               case rest =>
                clear HC76
                try clear c1
                try clear p1
                try clear q1
                try clear hx1
                try clear c2
                try clear p2
                try clear c3
                try clear c4
                try clear c5
                try clear c6
                try clear p6
                try clear c7
                try clear c11
                try clear p11
                try clear q11
                try clear hx11
                try clear p12
                try clear q12
                try clear hx12
                try clear c13
                try clear c18
                try clear c19
                try clear c19b0
                try clear c20
                try clear c20b0
                try clear c21
                try clear c21b0
                try clear c22
                try clear c22b0
                try clear c23
                try clear c23b0
                try clear c24
                try clear c25
                try clear c25b0
                try clear c25b1
                try clear c26
                try clear c27
                try clear c27b0
                try clear c27b1
                try clear c28
                try clear c29
                try clear c32
                try clear c33
                try clear c34
                try clear c36
                try clear c36b0
                try clear c36b1
                try clear c36b2
                try clear c41
                try clear c41b0
                try clear c42
                try clear c42b0
                try clear c43
                try clear c43b0
                try clear c44
                try clear c44b0
                try clear c50
                try clear c58
                try clear c58b0
                try clear c58b1
                try clear c58b2
                try clear c61
                try clear c64
                try clear p64
                try clear c66
                try clear c69
                try clear c75
                try clear c75b0
                try clear c77
                try clear c77b0
                try clear c77b1
                try clear c79
                try clear hcz12_0
                try clear hcz12_1
                try clear hcz15_0
                try clear hcz15_1
                try clear hcz18_0
                try clear hcz18_1
                try clear hcz30_0
                try clear hcz30_1
                try clear hcz33_0
                try clear hcz33_1
                try clear hcz35_0
                try clear hcz35_1
                try clear hcz51_0
                try clear hcz51_1
                try clear hcz62_0
                try clear hcz62_1
                try clear hcz65_0
                try clear hcz65_1
                try clear hcz70_0
                try clear hcz70_1
                try clear hcz74_0
                try clear hcz74_1
                try clear hcz80_0
                try clear hcz80_1
                try clear hfz12_0
                try clear hfz12_1
                try clear hfz15_0
                try clear hfz15_1
                try clear hfz18_0
                try clear hfz18_1
                try clear hfz30_0
                try clear hfz30_1
                try clear hfz33_0
                try clear hfz33_1
                try clear hfz35_0
                try clear hfz35_1
                try clear hfz51_0
                try clear hfz51_1
                try clear hfz62_0
                try clear hfz62_1
                try clear hfz65_0
                try clear hfz65_1
                try clear hfz70_0
                try clear hfz70_1
                try clear hfz74_0
                try clear hfz74_1
                try clear hfz80_0
                try clear hfz80_1
                try clear hx116_0
                try clear hx117_0
                try clear hx123_0
                try clear hx124_0
                try clear p1
                try clear p11
                try clear p116
                try clear p117
                try clear p12
                try clear p123
                try clear p124
                try clear p2
                try clear p6
                try clear p64
                try clear q1
                try clear q11
                try clear q116
                try clear q117
                try clear q12
                try clear q123
                try clear q124
                obtain ⟨kq, x117_75, rfl, HA, HJ75, HO_114000, HO_114001, HO_115000, HO_115001, BK113, BK114, HB⟩ := hcut
                cases kq with
                | zero => exact absurd HA.out (by simp [imprimaturlaw07_EnterBack.j3])
                | succ kj75 =>
                 have H := HA.out
                 clear HA
                 simp only [imprimaturlaw07_EnterBack.j3] at H
                 by_cases c82 : x117_75 = true
                 ·subst c82
                  have H1 : (imprimaturlaw07_EnterBack.l1 kj75 t115 (rd x12_1 t122) (rd t104 (rd x12_1 t122)) t138 (t101.length : Int) (wrap64 (x105_3 + 1)) t101 t104) = some r := by rw [if_pos rfl] at H; exact H
                  clear H
                  have H := H1
                  clear H1
                  have H' := Aside0.mk H
                  clear H
                  go_wp2
                  go_roundg kj75
                  case measure => have := HK1.out; have := HJ47.out; have := HK3.out; have := HJ75.out; omega
                  case rel => exact ⟨(wrap64 (x105_3 + 1)), (by first | rfl | (simp; done) | (simp [*]; done)), H', ⟨by have := HK1.out; have := HJ47.out; have := HK3.out; have := HJ75.out; omega⟩, ⟨by (with_reducible repeat (first | apply Kd.R_alloc | apply Kd.R_drewN | apply Kd.R_drew)); exact HO_114000.out⟩, ⟨by (with_reducible repeat (first | apply Kd.R_alloc | apply Kd.R_drewN | apply Kd.R_drew)); exact HO_114001.out⟩, ⟨by (with_reducible repeat (first | apply Kd.R_alloc | apply Kd.R_drewN | apply Kd.R_drew)); exact HO_115000.out⟩, ⟨by (with_reducible repeat (first | apply Kd.R_alloc | apply Kd.R_drewN | apply Kd.R_drew)); exact HO_115001.out⟩, ⟨by (with_reducible repeat (first | refine blk_drewN ?_ _ | refine blk_drew ?_ | refine blk_alloc ?_ _)); exact BK113.out⟩, ⟨by (with_reducible repeat (first | refine blk_drewN ?_ _ | refine blk_drew ?_ | refine blk_alloc ?_ _)); exact BK114.out⟩, ⟨by repeat (first | (with_reducible first | exact HB.out | apply below_alloc | apply pw_below_drewN | apply below_drew1 | refine below_set ?_ GE113.out | refine below_set ?_ GE114.out) | exact HB.out)⟩⟩
                 ·replace c82 := Bool.eq_false_iff.mpr c82
                  subst c82
                  have H1 : (if 0 ≤ (IntKind.u64.wrap (x105_3)) then (if 0 ≤ (rd x12_1 t122) then (if (rd x12_1 t122) < (t101.length : Int) then (if (rd t101 (rd x12_1 t122)) = 4 then (if (Go.bits .and .u32 (shr .u32 t115 (IntKind.u64.wrap (x105_3))) 1) = (Go.bits .and .u32 (shr .u32 t138 (IntKind.u64.wrap (x105_3))) 1) then (if 0 ≤ x105_3 then (if x105_3 < (t104.length : Int) then (if (rd t104 x105_3) = (rd t104 (rd x12_1 t122)) then (imprimaturlaw07_EnterBack.l1 kj75 t115 (rd x12_1 t122) (rd t104 (rd x12_1 t122)) t138 (t101.length : Int) (wrap64 (x105_3 + 1)) t101 t104) else (imprimaturlaw07_EnterBack.l1 kj75 t115 (rd x12_1 t122) (rd t104 (rd x12_1 t122)) t138 (t101.length : Int) (wrap64 (x105_3 + 1)) t101 t104)) else (none)) else (none)) else (some false)) else (if 0 ≤ x105_3 then (if x105_3 < (t104.length : Int) then (if (rd t104 x105_3) = (rd t104 (rd x12_1 t122)) then (if (Go.bits .and .u32 (shr .u32 t115 (IntKind.u64.wrap (x105_3))) 1) = (Go.bits .and .u32 (shr .u32 t138 (IntKind.u64.wrap (x105_3))) 1) then (imprimaturlaw07_EnterBack.l1 kj75 t115 (rd x12_1 t122) (rd t104 (rd x12_1 t122)) t138 (t101.length : Int) (wrap64 (x105_3 + 1)) t101 t104) else (some false)) else (imprimaturlaw07_EnterBack.l1 kj75 t115 (rd x12_1 t122) (rd t104 (rd x12_1 t122)) t138 (t101.length : Int) (wrap64 (x105_3 + 1)) t101 t104)) else (none)) else (none))) else (none)) else (none)) else (none)) = some r := by rw [if_neg (show ¬ (false = true) by decide)] at H; exact H
                  clear H
                  have H := H1
                  clear H1
                  obtain ⟨ji83, hji83⟩ : ∃ j_ : Int, (IntKind.u64.wrap (x105_3)) = j_ := ⟨_, rfl⟩
                  replace H : (if 0 ≤ (ji83) then (if 0 ≤ (rd x12_1 t122) then (if (rd x12_1 t122) < (t101.length : Int) then (if (rd t101 (rd x12_1 t122)) = 4 then (if (Go.bits .and .u32 (shr .u32 t115 (ji83)) 1) = (Go.bits .and .u32 (shr .u32 t138 (ji83)) 1) then (if 0 ≤ x105_3 then (if x105_3 < (t104.length : Int) then (if (rd t104 x105_3) = (rd t104 (rd x12_1 t122)) then (imprimaturlaw07_EnterBack.l1 kj75 t115 (rd x12_1 t122) (rd t104 (rd x12_1 t122)) t138 (t101.length : Int) (wrap64 (x105_3 + 1)) t101 t104) else (imprimaturlaw07_EnterBack.l1 kj75 t115 (rd x12_1 t122) (rd t104 (rd x12_1 t122)) t138 (t101.length : Int) (wrap64 (x105_3 + 1)) t101 t104)) else (none)) else (none)) else (some false)) else (if 0 ≤ x105_3 then (if x105_3 < (t104.length : Int) then (if (rd t104 x105_3) = (rd t104 (rd x12_1 t122)) then (if (Go.bits .and .u32 (shr .u32 t115 (ji83)) 1) = (Go.bits .and .u32 (shr .u32 t138 (ji83)) 1) then (imprimaturlaw07_EnterBack.l1 kj75 t115 (rd x12_1 t122) (rd t104 (rd x12_1 t122)) t138 (t101.length : Int) (wrap64 (x105_3 + 1)) t101 t104) else (some false)) else (imprimaturlaw07_EnterBack.l1 kj75 t115 (rd x12_1 t122) (rd t104 (rd x12_1 t122)) t138 (t101.length : Int) (wrap64 (x105_3 + 1)) t101 t104)) else (none)) else (none))) else (none)) else (none)) else (none)) = some r := by first | (rw [hji83] at H; exact H) | (simp only [hji83] at H ⊢; exact H)
                  by_cases c84 : 0 ≤ (ji83)
                  ·rw [if_pos c84] at H
                   have c84b0 := eq_true c84
                   have c84b1 : decide (0 ≤ (ji83)) = true := decide_eq_true c84
                   clear c84
                   obtain ⟨ji85, hji85⟩ : ∃ j_ : Int, (shr .u32 t115 (ji83)) = j_ := ⟨_, rfl⟩
                   replace H : (if 0 ≤ (rd x12_1 t122) then (if (rd x12_1 t122) < (t101.length : Int) then (if (rd t101 (rd x12_1 t122)) = 4 then (if (Go.bits .and .u32 (ji85) 1) = (Go.bits .and .u32 (shr .u32 t138 (ji83)) 1) then (if 0 ≤ x105_3 then (if x105_3 < (t104.length : Int) then (if (rd t104 x105_3) = (rd t104 (rd x12_1 t122)) then (imprimaturlaw07_EnterBack.l1 kj75 t115 (rd x12_1 t122) (rd t104 (rd x12_1 t122)) t138 (t101.length : Int) (wrap64 (x105_3 + 1)) t101 t104) else (imprimaturlaw07_EnterBack.l1 kj75 t115 (rd x12_1 t122) (rd t104 (rd x12_1 t122)) t138 (t101.length : Int) (wrap64 (x105_3 + 1)) t101 t104)) else (none)) else (none)) else (some false)) else (if 0 ≤ x105_3 then (if x105_3 < (t104.length : Int) then (if (rd t104 x105_3) = (rd t104 (rd x12_1 t122)) then (if (Go.bits .and .u32 (ji85) 1) = (Go.bits .and .u32 (shr .u32 t138 (ji83)) 1) then (imprimaturlaw07_EnterBack.l1 kj75 t115 (rd x12_1 t122) (rd t104 (rd x12_1 t122)) t138 (t101.length : Int) (wrap64 (x105_3 + 1)) t101 t104) else (some false)) else (imprimaturlaw07_EnterBack.l1 kj75 t115 (rd x12_1 t122) (rd t104 (rd x12_1 t122)) t138 (t101.length : Int) (wrap64 (x105_3 + 1)) t101 t104)) else (none)) else (none))) else (none)) else (none)) = some r := by first | (rw [hji85] at H; exact H) | (simp only [hji85] at H ⊢; exact H)
                   have hji85_ : (t115 / 2 ^ min (ji83).toNat 32) = ji85 := hji85
                   have hji85z : (ji83) ≤ 32 → (t115 / 2 ^ (ji83).toNat) = ji85 := shr_small hji85
                   have c86b0 := eq_true (of_decide_eq_true (by first | (with_reducible assumption) | assumption) : 0 ≤ (ji83))
                   obtain ⟨ji87, hji87⟩ : ∃ j_ : Int, (shr .u32 t138 (ji83)) = j_ := ⟨_, rfl⟩
                   replace H : (if 0 ≤ (rd x12_1 t122) then (if (rd x12_1 t122) < (t101.length : Int) then (if (rd t101 (rd x12_1 t122)) = 4 then (if (Go.bits .and .u32 (ji85) 1) = (Go.bits .and .u32 (ji87) 1) then (if 0 ≤ x105_3 then (if x105_3 < (t104.length : Int) then (if (rd t104 x105_3) = (rd t104 (rd x12_1 t122)) then (imprimaturlaw07_EnterBack.l1 kj75 t115 (rd x12_1 t122) (rd t104 (rd x12_1 t122)) t138 (t101.length : Int) (wrap64 (x105_3 + 1)) t101 t104) else (imprimaturlaw07_EnterBack.l1 kj75 t115 (rd x12_1 t122) (rd t104 (rd x12_1 t122)) t138 (t101.length : Int) (wrap64 (x105_3 + 1)) t101 t104)) else (none)) else (none)) else (some false)) else (if 0 ≤ x105_3 then (if x105_3 < (t104.length : Int) then (if (rd t104 x105_3) = (rd t104 (rd x12_1 t122)) then (if (Go.bits .and .u32 (ji85) 1) = (Go.bits .and .u32 (ji87) 1) then (imprimaturlaw07_EnterBack.l1 kj75 t115 (rd x12_1 t122) (rd t104 (rd x12_1 t122)) t138 (t101.length : Int) (wrap64 (x105_3 + 1)) t101 t104) else (some false)) else (imprimaturlaw07_EnterBack.l1 kj75 t115 (rd x12_1 t122) (rd t104 (rd x12_1 t122)) t138 (t101.length : Int) (wrap64 (x105_3 + 1)) t101 t104)) else (none)) else (none))) else (none)) else (none)) = some r := by first | (rw [hji87] at H; exact H) | (simp only [hji87] at H ⊢; exact H)
                   have hji87_ : (t138 / 2 ^ min (ji83).toNat 32) = ji87 := hji87
                   have hji87z : (ji83) ≤ 32 → (t138 / 2 ^ (ji83).toNat) = ji87 := shr_small hji87
                   by_cases c88 : 0 ≤ (rd x12_1 t122)
                   ·rw [if_pos c88] at H
                    have c88b0 : decide (0 ≤ (rd x12_1 t122)) = true := decide_eq_true c88
                    clear c88
                    by_cases c89 : (rd x12_1 t122) < (t101.length : Int)
                    ·rw [if_pos c89] at H
                     have c89b0 : decide ((rd x12_1 t122) < (t101.length : Int)) = true := decide_eq_true c89
                     clear c89
                     by_cases c90 : (rd t101 (rd x12_1 t122)) = 4
                     ·rw [if_pos c90] at H
                      have c90b0 : ((rd t101 (rd x12_1 t122)) == 4) = true := beq_iff_eq.mpr c90
                      have c90b1 : ((rd t101 (rd x12_1 t122)) != 4) = false := bne_eq_false_iff_eq.mpr c90
                      clear c90
                      by_cases c91 : (Go.bits .and .u32 (ji85) 1) = (Go.bits .and .u32 (ji87) 1)
                      ·rw [if_pos c91] at H
                       have c91b0 : ((Go.bits .and .u32 (ji85) 1) == (Go.bits .and .u32 (ji87) 1)) = true := beq_iff_eq.mpr c91
                       have c91b1 : ((Go.bits .and .u32 (ji85) 1) != (Go.bits .and .u32 (ji87) 1)) = false := bne_eq_false_iff_eq.mpr c91
                       clear c91
                       by_cases c92 : 0 ≤ x105_3
                       ·rw [if_pos c92] at H
                        have c92b0 : decide (0 ≤ x105_3) = true := decide_eq_true c92
                        clear c92
                        by_cases c93 : x105_3 < (t104.length : Int)
                        ·rw [if_pos c93] at H
                         have c93b0 : decide (x105_3 < (t104.length : Int)) = true := decide_eq_true c93
                         clear c93
                         by_cases c94 : (rd t104 x105_3) = (rd t104 (rd x12_1 t122))
                         ·rw [if_pos c94] at H
                          have c94b0 : ((rd t104 x105_3) == (rd t104 (rd x12_1 t122))) = true := beq_iff_eq.mpr c94
                          have c94b1 : ((rd t104 x105_3) != (rd t104 (rd x12_1 t122))) = false := bne_eq_false_iff_eq.mpr c94
                          clear c94
                          have H' := Aside0.mk H
                          clear H
                          have hnb95 := NB113_114.out
                          have hnc95 := NB114_113.out
                          have hcz96_0 : wc.cell? ⟨gb113, 0, none⟩ = some (.slice Ao10 t101.length co10) := (blk_cell BK113.out 0).trans rfl
                          have hcz96_1 : wc.cell? ⟨gb113, 1, none⟩ = some (.slice (some ad124) t104.length co13) := (blk_cell BK113.out 1).trans rfl
                          have hfz96_0 := blk_frozen BK113.out 0
                          have hfz96_1 := blk_frozen BK113.out 1
                          have p141 : 0 ≤ ((rd x12_1 t122) : Int) := of_decide_eq_true (by first | (with_reducible assumption) | assumption)
                          have q141 : (rd x12_1 t122) < (t101.length : Int) := of_decide_eq_true (by first | (with_reducible assumption) | assumption)
                          obtain ⟨ad141, e141, hx141_0⟩ := Kd.at_int (Kd.R_reads' HO_114000.out).2.2 (rd x12_1 t122) p141 q141
                          cases e141
                          replace p141 := eq_true p141
                          replace q141 := eq_true q141
                          have p142 : 0 ≤ (x105_3 : Int) := of_decide_eq_true (by first | (with_reducible assumption) | assumption)
                          have q142 : x105_3 < (t104.length : Int) := of_decide_eq_true (by first | (with_reducible assumption) | assumption)
                          obtain ⟨ad142, e142, hx142_0⟩ := Kd.at_int (Kd.R_reads' HO_114001.out).2.2 x105_3 p142 q142
                          obtain rfl : ad124 = ad142 := (by injection e142)
                          replace p142 := eq_true p142
                          replace q142 := eq_true q142
                          go_wp2
                          go_roundg kj75
                          case measure => have := HK1.out; have := HJ47.out; have := HK3.out; have := HJ75.out; omega
                          case rel => exact ⟨(wrap64 (x105_3 + 1)), (by first | rfl | (simp; done) | (simp [*]; done)), (by first | exact H' | exact ⟨by simp only [hji83, hji85, hji87]; exact H'.out⟩), ⟨by have := HK1.out; have := HJ47.out; have := HK3.out; have := HJ75.out; omega⟩, ⟨by (with_reducible repeat (first | apply Kd.R_alloc | apply Kd.R_drewN | apply Kd.R_drew)); exact HO_114000.out⟩, ⟨by (with_reducible repeat (first | apply Kd.R_alloc | apply Kd.R_drewN | apply Kd.R_drew)); exact HO_114001.out⟩, ⟨by (with_reducible repeat (first | apply Kd.R_alloc | apply Kd.R_drewN | apply Kd.R_drew)); exact HO_115000.out⟩, ⟨by (with_reducible repeat (first | apply Kd.R_alloc | apply Kd.R_drewN | apply Kd.R_drew)); exact HO_115001.out⟩, ⟨by (with_reducible repeat (first | refine blk_drewN ?_ _ | refine blk_drew ?_ | refine blk_alloc ?_ _)); exact BK113.out⟩, ⟨by (with_reducible repeat (first | refine blk_drewN ?_ _ | refine blk_drew ?_ | refine blk_alloc ?_ _)); exact BK114.out⟩, ⟨by repeat (first | (with_reducible first | exact HB.out | apply below_alloc | apply pw_below_drewN | apply below_drew1 | refine below_set ?_ GE113.out | refine below_set ?_ GE114.out) | exact HB.out)⟩⟩
                         ·rw [if_neg c94] at H
                          have c94b0 : ((rd t104 x105_3) == (rd t104 (rd x12_1 t122))) = false := beq_eq_false_iff_ne.mpr c94
                          have c94b1 : ((rd t104 x105_3) != (rd t104 (rd x12_1 t122))) = true := bne_iff_ne.mpr c94
                          have H' := Aside0.mk H
                          clear H
                          have hnb97 := NB113_114.out
                          have hnc97 := NB114_113.out
                          have hcz98_0 : wc.cell? ⟨gb113, 0, none⟩ = some (.slice Ao10 t101.length co10) := (blk_cell BK113.out 0).trans rfl
                          have hcz98_1 : wc.cell? ⟨gb113, 1, none⟩ = some (.slice (some ad124) t104.length co13) := (blk_cell BK113.out 1).trans rfl
                          have hfz98_0 := blk_frozen BK113.out 0
                          have hfz98_1 := blk_frozen BK113.out 1
                          have p141 : 0 ≤ ((rd x12_1 t122) : Int) := of_decide_eq_true (by first | (with_reducible assumption) | assumption)
                          have q141 : (rd x12_1 t122) < (t101.length : Int) := of_decide_eq_true (by first | (with_reducible assumption) | assumption)
                          obtain ⟨ad141, e141, hx141_0⟩ := Kd.at_int (Kd.R_reads' HO_114000.out).2.2 (rd x12_1 t122) p141 q141
                          cases e141
                          replace p141 := eq_true p141
                          replace q141 := eq_true q141
                          have p142 : 0 ≤ (x105_3 : Int) := of_decide_eq_true (by first | (with_reducible assumption) | assumption)
                          have q142 : x105_3 < (t104.length : Int) := of_decide_eq_true (by first | (with_reducible assumption) | assumption)
                          obtain ⟨ad142, e142, hx142_0⟩ := Kd.at_int (Kd.R_reads' HO_114001.out).2.2 x105_3 p142 q142
                          obtain rfl : ad124 = ad142 := (by injection e142)
                          replace p142 := eq_true p142
                          replace q142 := eq_true q142
                          go_wp2
                          go_roundg kj75
                          case measure => have := HK1.out; have := HJ47.out; have := HK3.out; have := HJ75.out; omega
                          case rel => exact ⟨(wrap64 (x105_3 + 1)), (by first | rfl | (simp; done) | (simp [*]; done)), (by first | exact H' | exact ⟨by simp only [hji83, hji85, hji87]; exact H'.out⟩), ⟨by have := HK1.out; have := HJ47.out; have := HK3.out; have := HJ75.out; omega⟩, ⟨by (with_reducible repeat (first | apply Kd.R_alloc | apply Kd.R_drewN | apply Kd.R_drew)); exact HO_114000.out⟩, ⟨by (with_reducible repeat (first | apply Kd.R_alloc | apply Kd.R_drewN | apply Kd.R_drew)); exact HO_114001.out⟩, ⟨by (with_reducible repeat (first | apply Kd.R_alloc | apply Kd.R_drewN | apply Kd.R_drew)); exact HO_115000.out⟩, ⟨by (with_reducible repeat (first | apply Kd.R_alloc | apply Kd.R_drewN | apply Kd.R_drew)); exact HO_115001.out⟩, ⟨by (with_reducible repeat (first | refine blk_drewN ?_ _ | refine blk_drew ?_ | refine blk_alloc ?_ _)); exact BK113.out⟩, ⟨by (with_reducible repeat (first | refine blk_drewN ?_ _ | refine blk_drew ?_ | refine blk_alloc ?_ _)); exact BK114.out⟩, ⟨by repeat (first | (with_reducible first | exact HB.out | apply below_alloc | apply pw_below_drewN | apply below_drew1 | refine below_set ?_ GE113.out | refine below_set ?_ GE114.out) | exact HB.out)⟩⟩
                        ·rw [if_neg c93] at H
                         exact absurd H (by simp)
                       ·rw [if_neg c92] at H
                        exact absurd H (by simp)
                      ·rw [if_neg c91] at H
                       have c91b0 : ((Go.bits .and .u32 (ji85) 1) == (Go.bits .and .u32 (ji87) 1)) = false := beq_eq_false_iff_ne.mpr c91
                       have c91b1 : ((Go.bits .and .u32 (ji85) 1) != (Go.bits .and .u32 (ji87) 1)) = true := bne_iff_ne.mpr c91
                       obtain rfl := Option.some.inj H
                       have hnb99 := NB113_114.out
                       have hnc99 := NB114_113.out
                       have hcz100_0 : wc.cell? ⟨gb113, 0, none⟩ = some (.slice Ao10 t101.length co10) := (blk_cell BK113.out 0).trans rfl
                       have hcz100_1 : wc.cell? ⟨gb113, 1, none⟩ = some (.slice (some ad124) t104.length co13) := (blk_cell BK113.out 1).trans rfl
                       have hfz100_0 := blk_frozen BK113.out 0
                       have hfz100_1 := blk_frozen BK113.out 1
                       have p141 : 0 ≤ ((rd x12_1 t122) : Int) := of_decide_eq_true (by first | (with_reducible assumption) | assumption)
                       have q141 : (rd x12_1 t122) < (t101.length : Int) := of_decide_eq_true (by first | (with_reducible assumption) | assumption)
                       obtain ⟨ad141, e141, hx141_0⟩ := Kd.at_int (Kd.R_reads' HO_114000.out).2.2 (rd x12_1 t122) p141 q141
                       cases e141
                       replace p141 := eq_true p141
                       replace q141 := eq_true q141
                       go_wp2
                       go_ret
                       exact ⟨by first | rfl | (simp [errW_none, errW_some] <;> rfl) | (simp only [← hji83, ← hji85, ← hji87]; first | rfl | (simp [errW_none, errW_some] <;> rfl)) | (simp [*, errW_none, errW_some] <;> rfl), by repeat (first | (with_reducible first | exact HB.out | apply below_alloc | apply pw_below_drewN | apply below_drew1 | refine below_set ?_ GE113.out | refine below_set ?_ GE114.out) | exact HB.out)⟩
                     ·rw [if_neg c90] at H
                      have c90b0 : ((rd t101 (rd x12_1 t122)) == 4) = false := beq_eq_false_iff_ne.mpr c90
                      have c90b1 : ((rd t101 (rd x12_1 t122)) != 4) = true := bne_iff_ne.mpr c90
                      by_cases c101 : 0 ≤ x105_3
                      ·rw [if_pos c101] at H
                       have c101b0 : decide (0 ≤ x105_3) = true := decide_eq_true c101
                       clear c101
                       by_cases c102 : x105_3 < (t104.length : Int)
                       ·rw [if_pos c102] at H
                        have c102b0 : decide (x105_3 < (t104.length : Int)) = true := decide_eq_true c102
                        clear c102
                        by_cases c103 : (rd t104 x105_3) = (rd t104 (rd x12_1 t122))
                        ·rw [if_pos c103] at H
                         have c103b0 : ((rd t104 x105_3) == (rd t104 (rd x12_1 t122))) = true := beq_iff_eq.mpr c103
                         have c103b1 : ((rd t104 x105_3) != (rd t104 (rd x12_1 t122))) = false := bne_eq_false_iff_eq.mpr c103
                         clear c103
                         by_cases c104 : (Go.bits .and .u32 (ji85) 1) = (Go.bits .and .u32 (ji87) 1)
                         ·rw [if_pos c104] at H
                          have c104b0 : ((Go.bits .and .u32 (ji85) 1) == (Go.bits .and .u32 (ji87) 1)) = true := beq_iff_eq.mpr c104
                          have c104b1 : ((Go.bits .and .u32 (ji85) 1) != (Go.bits .and .u32 (ji87) 1)) = false := bne_eq_false_iff_eq.mpr c104
                          clear c104
                          have H' := Aside0.mk H
                          clear H
                          have hnb105 := NB113_114.out
                          have hnc105 := NB114_113.out
                          have hcz106_0 : wc.cell? ⟨gb113, 0, none⟩ = some (.slice Ao10 t101.length co10) := (blk_cell BK113.out 0).trans rfl
                          have hcz106_1 : wc.cell? ⟨gb113, 1, none⟩ = some (.slice (some ad124) t104.length co13) := (blk_cell BK113.out 1).trans rfl
                          have hfz106_0 := blk_frozen BK113.out 0
                          have hfz106_1 := blk_frozen BK113.out 1
                          have p141 : 0 ≤ ((rd x12_1 t122) : Int) := of_decide_eq_true (by first | (with_reducible assumption) | assumption)
                          have q141 : (rd x12_1 t122) < (t101.length : Int) := of_decide_eq_true (by first | (with_reducible assumption) | assumption)
                          obtain ⟨ad141, e141, hx141_0⟩ := Kd.at_int (Kd.R_reads' HO_114000.out).2.2 (rd x12_1 t122) p141 q141
                          cases e141
                          replace p141 := eq_true p141
                          replace q141 := eq_true q141
                          have p143 : 0 ≤ (x105_3 : Int) := of_decide_eq_true (by first | (with_reducible assumption) | assumption)
                          have q143 : x105_3 < (t104.length : Int) := of_decide_eq_true (by first | (with_reducible assumption) | assumption)
                          obtain ⟨ad143, e143, hx143_0⟩ := Kd.at_int (Kd.R_reads' HO_114001.out).2.2 x105_3 p143 q143
                          obtain rfl : ad124 = ad143 := (by injection e143)
                          replace p143 := eq_true p143
                          replace q143 := eq_true q143
                          go_wp2
                          go_roundg kj75
                          case measure => have := HK1.out; have := HJ47.out; have := HK3.out; have := HJ75.out; omega
                          case rel => exact ⟨(wrap64 (x105_3 + 1)), (by first | rfl | (simp; done) | (simp [*]; done)), (by first | exact H' | exact ⟨by simp only [hji83, hji85, hji87]; exact H'.out⟩), ⟨by have := HK1.out; have := HJ47.out; have := HK3.out; have := HJ75.out; omega⟩, ⟨by (with_reducible repeat (first | apply Kd.R_alloc | apply Kd.R_drewN | apply Kd.R_drew)); exact HO_114000.out⟩, ⟨by (with_reducible repeat (first | apply Kd.R_alloc | apply Kd.R_drewN | apply Kd.R_drew)); exact HO_114001.out⟩, ⟨by (with_reducible repeat (first | apply Kd.R_alloc | apply Kd.R_drewN | apply Kd.R_drew)); exact HO_115000.out⟩, ⟨by (with_reducible repeat (first | apply Kd.R_alloc | apply Kd.R_drewN | apply Kd.R_drew)); exact HO_115001.out⟩, ⟨by (with_reducible repeat (first | refine blk_drewN ?_ _ | refine blk_drew ?_ | refine blk_alloc ?_ _)); exact BK113.out⟩, ⟨by (with_reducible repeat (first | refine blk_drewN ?_ _ | refine blk_drew ?_ | refine blk_alloc ?_ _)); exact BK114.out⟩, ⟨by repeat (first | (with_reducible first | exact HB.out | apply below_alloc | apply pw_below_drewN | apply below_drew1 | refine below_set ?_ GE113.out | refine below_set ?_ GE114.out) | exact HB.out)⟩⟩
                         ·rw [if_neg c104] at H
                          have c104b0 : ((Go.bits .and .u32 (ji85) 1) == (Go.bits .and .u32 (ji87) 1)) = false := beq_eq_false_iff_ne.mpr c104
                          have c104b1 : ((Go.bits .and .u32 (ji85) 1) != (Go.bits .and .u32 (ji87) 1)) = true := bne_iff_ne.mpr c104
                          obtain rfl := Option.some.inj H
                          have hnb107 := NB113_114.out
                          have hnc107 := NB114_113.out
                          have hcz108_0 : wc.cell? ⟨gb113, 0, none⟩ = some (.slice Ao10 t101.length co10) := (blk_cell BK113.out 0).trans rfl
                          have hcz108_1 : wc.cell? ⟨gb113, 1, none⟩ = some (.slice (some ad124) t104.length co13) := (blk_cell BK113.out 1).trans rfl
                          have hfz108_0 := blk_frozen BK113.out 0
                          have hfz108_1 := blk_frozen BK113.out 1
                          have p141 : 0 ≤ ((rd x12_1 t122) : Int) := of_decide_eq_true (by first | (with_reducible assumption) | assumption)
                          have q141 : (rd x12_1 t122) < (t101.length : Int) := of_decide_eq_true (by first | (with_reducible assumption) | assumption)
                          obtain ⟨ad141, e141, hx141_0⟩ := Kd.at_int (Kd.R_reads' HO_114000.out).2.2 (rd x12_1 t122) p141 q141
                          cases e141
                          replace p141 := eq_true p141
                          replace q141 := eq_true q141
                          have p143 : 0 ≤ (x105_3 : Int) := of_decide_eq_true (by first | (with_reducible assumption) | assumption)
                          have q143 : x105_3 < (t104.length : Int) := of_decide_eq_true (by first | (with_reducible assumption) | assumption)
                          obtain ⟨ad143, e143, hx143_0⟩ := Kd.at_int (Kd.R_reads' HO_114001.out).2.2 x105_3 p143 q143
                          obtain rfl : ad124 = ad143 := (by injection e143)
                          replace p143 := eq_true p143
                          replace q143 := eq_true q143
                          go_wp2
                          go_ret
                          exact ⟨by first | rfl | (simp [errW_none, errW_some] <;> rfl) | (simp only [← hji83, ← hji85, ← hji87]; first | rfl | (simp [errW_none, errW_some] <;> rfl)) | (simp [*, errW_none, errW_some] <;> rfl), by repeat (first | (with_reducible first | exact HB.out | apply below_alloc | apply pw_below_drewN | apply below_drew1 | refine below_set ?_ GE113.out | refine below_set ?_ GE114.out) | exact HB.out)⟩
                        ·rw [if_neg c103] at H
                         have c103b0 : ((rd t104 x105_3) == (rd t104 (rd x12_1 t122))) = false := beq_eq_false_iff_ne.mpr c103
                         have c103b1 : ((rd t104 x105_3) != (rd t104 (rd x12_1 t122))) = true := bne_iff_ne.mpr c103
                         have H' := Aside0.mk H
                         clear H
                         have hnb109 := NB113_114.out
                         have hnc109 := NB114_113.out
                         have hcz110_0 : wc.cell? ⟨gb113, 0, none⟩ = some (.slice Ao10 t101.length co10) := (blk_cell BK113.out 0).trans rfl
                         have hcz110_1 : wc.cell? ⟨gb113, 1, none⟩ = some (.slice (some ad124) t104.length co13) := (blk_cell BK113.out 1).trans rfl
                         have hfz110_0 := blk_frozen BK113.out 0
                         have hfz110_1 := blk_frozen BK113.out 1
                         have p141 : 0 ≤ ((rd x12_1 t122) : Int) := of_decide_eq_true (by first | (with_reducible assumption) | assumption)
                         have q141 : (rd x12_1 t122) < (t101.length : Int) := of_decide_eq_true (by first | (with_reducible assumption) | assumption)
                         obtain ⟨ad141, e141, hx141_0⟩ := Kd.at_int (Kd.R_reads' HO_114000.out).2.2 (rd x12_1 t122) p141 q141
                         cases e141
                         replace p141 := eq_true p141
                         replace q141 := eq_true q141
                         have p143 : 0 ≤ (x105_3 : Int) := of_decide_eq_true (by first | (with_reducible assumption) | assumption)
                         have q143 : x105_3 < (t104.length : Int) := of_decide_eq_true (by first | (with_reducible assumption) | assumption)
                         obtain ⟨ad143, e143, hx143_0⟩ := Kd.at_int (Kd.R_reads' HO_114001.out).2.2 x105_3 p143 q143
                         obtain rfl : ad124 = ad143 := (by injection e143)
                         replace p143 := eq_true p143
                         replace q143 := eq_true q143
                         go_wp2
                         go_roundg kj75
                         case measure => have := HK1.out; have := HJ47.out; have := HK3.out; have := HJ75.out; omega
                         case rel => exact ⟨(wrap64 (x105_3 + 1)), (by first | rfl | (simp; done) | (simp [*]; done)), (by first | exact H' | exact ⟨by simp only [hji83, hji85, hji87]; exact H'.out⟩), ⟨by have := HK1.out; have := HJ47.out; have := HK3.out; have := HJ75.out; omega⟩, ⟨by (with_reducible repeat (first | apply Kd.R_alloc | apply Kd.R_drewN | apply Kd.R_drew)); exact HO_114000.out⟩, ⟨by (with_reducible repeat (first | apply Kd.R_alloc | apply Kd.R_drewN | apply Kd.R_drew)); exact HO_114001.out⟩, ⟨by (with_reducible repeat (first | apply Kd.R_alloc | apply Kd.R_drewN | apply Kd.R_drew)); exact HO_115000.out⟩, ⟨by (with_reducible repeat (first | apply Kd.R_alloc | apply Kd.R_drewN | apply Kd.R_drew)); exact HO_115001.out⟩, ⟨by (with_reducible repeat (first | refine blk_drewN ?_ _ | refine blk_drew ?_ | refine blk_alloc ?_ _)); exact BK113.out⟩, ⟨by (with_reducible repeat (first | refine blk_drewN ?_ _ | refine blk_drew ?_ | refine blk_alloc ?_ _)); exact BK114.out⟩, ⟨by repeat (first | (with_reducible first | exact HB.out | apply below_alloc | apply pw_below_drewN | apply below_drew1 | refine below_set ?_ GE113.out | refine below_set ?_ GE114.out) | exact HB.out)⟩⟩
                       ·rw [if_neg c102] at H
                        exact absurd H (by simp)
                      ·rw [if_neg c101] at H
                       exact absurd H (by simp)
                    ·rw [if_neg c89] at H
                     exact absurd H (by simp)
                   ·rw [if_neg c88] at H
                    exact absurd H (by simp)
                  ·rw [if_neg c84] at H
                   exact absurd H (by simp)
              ·rw [if_neg c75] at H
               have c75b0 : decide (x105_3 < (t101.length : Int)) = false := decide_eq_false c75
               clear c75
               obtain ⟨ji111, hji111⟩ : ∃ j_ : Int, (IntKind.u64.wrap ((rd t104 (rd x12_1 t122)))) = j_ := ⟨_, rfl⟩
               replace H : (if 0 ≤ (ji111) then (if (Go.bits .and .u32 (shr .u32 t138 (ji111)) 1) = 1 then ((imprimaturlaw07_wakes.f k3).bind fun t139 => (some t139)) else (some false)) else (none)) = some r := by first | (rw [hji111] at H; exact H) | (simp only [hji111] at H ⊢; exact H)
               by_cases c112 : 0 ≤ (ji111)
               ·rw [if_pos c112] at H
                have c112b0 := eq_true c112
                have c112b1 : decide (0 ≤ (ji111)) = true := decide_eq_true c112
                clear c112
                obtain ⟨ji113, hji113⟩ : ∃ j_ : Int, (shr .u32 t138 (ji111)) = j_ := ⟨_, rfl⟩
                replace H : (if (Go.bits .and .u32 (ji113) 1) = 1 then ((imprimaturlaw07_wakes.f k3).bind fun t139 => (some t139)) else (some false)) = some r := by first | (rw [hji113] at H; exact H) | (simp only [hji113] at H ⊢; exact H)
                have hji113_ : (t138 / 2 ^ min (ji111).toNat 32) = ji113 := hji113
                have hji113z : (ji111) ≤ 32 → (t138 / 2 ^ (ji111).toNat) = ji113 := shr_small hji113
                by_cases c114 : (Go.bits .and .u32 (ji113) 1) = 1
                ·rw [if_pos c114] at H
                 have c114b0 : ((Go.bits .and .u32 (ji113) 1) == 1) = true := beq_iff_eq.mpr c114
                 have c114b1 : ((Go.bits .and .u32 (ji113) 1) != 1) = false := bne_eq_false_iff_eq.mpr c114
                 clear c114
                 replace H := Option.bind_eq_some_iff.mp H
                 obtain ⟨t139, A1150, H⟩ := H
                 replace H : (some t139) = some r := H
                 have A115 := Aside0.mk A1150
                 clear A1150
                 obtain rfl := Option.some.inj H
                 go_wp2_with (first | (go_at_call 28; (with_reducible refine (imprimaturlaw07_wakes.calls k3  t139 _ A115.out).mono ?_); rintro e w116 ⟨rfl, hb⟩; have n0_ := Aside0.mk (Kd.R_below (by (with_reducible repeat (first | apply Kd.R_alloc | apply Kd.R_drewN | apply Kd.R_drew)); exact HO_114000.out) hb); have n1_ := Aside0.mk (Kd.R_below (by (with_reducible repeat (first | apply Kd.R_alloc | apply Kd.R_drewN | apply Kd.R_drew)); exact HO_114001.out) hb); have n2_ := Aside0.mk (Kd.R_below (by (with_reducible repeat (first | apply Kd.R_alloc | apply Kd.R_drewN | apply Kd.R_drew)); exact HO_115000.out) hb); have n3_ := Aside0.mk (Kd.R_below (by (with_reducible repeat (first | apply Kd.R_alloc | apply Kd.R_drewN | apply Kd.R_drew)); exact HO_115001.out) hb); have n4_ := Aside0.mk (blk_below (g := gb113) (o := .cells #[.slice Ao10 t101.length co10, .slice (some ad124) t104.length co13] 24 (0, 0)) (by (with_reducible repeat (first | refine blk_drewN ?_ _ | refine blk_drew ?_ | refine blk_alloc ?_ _)); exact BK113.out) hb); have n5_ := Aside0.mk (blk_below (g := gb114) (o := .cells #[.slice Ao14 t107.length co14, .slice Ao16 t110.length co16] 25 (0, 0)) (by (with_reducible repeat (first | refine blk_drewN ?_ _ | refine blk_drew ?_ | refine blk_alloc ?_ _)); exact BK114.out) hb); have n6_ := Aside0.mk (below_step (by repeat (first | (with_reducible first | exact HB.out | apply below_alloc | apply pw_below_drewN | apply below_drew1 | refine below_set ?_ GE113.out | refine below_set ?_ GE114.out) | exact HB.out)) hb); clear HO_114000; clear HO_114001; clear HO_115000; clear HO_115001; clear BK113; clear BK114; clear HB; have HO_114000 := n0_; have HO_114001 := n1_; have HO_115000 := n2_; have HO_115001 := n3_; have BK113 := n4_; have BK114 := n5_; have HB := n6_; clear n0_ n1_ n2_ n3_ n4_ n5_ n6_; (try clear hb); (try clear hb2); (try clear hk); (try clear hi)))
                 go_ret
                 exact ⟨by first | rfl | (simp [errW_none, errW_some] <;> rfl) | (simp only [← hji111, ← hji113]; first | rfl | (simp [errW_none, errW_some] <;> rfl)) | (simp [*, errW_none, errW_some] <;> rfl), by repeat (first | (with_reducible first | exact HB.out | apply below_alloc | apply pw_below_drewN | apply below_drew1 | refine below_set ?_ GE113.out | refine below_set ?_ GE114.out) | exact HB.out)⟩
                ·rw [if_neg c114] at H
                 have c114b0 : ((Go.bits .and .u32 (ji113) 1) == 1) = false := beq_eq_false_iff_ne.mpr c114
                 have c114b1 : ((Go.bits .and .u32 (ji113) 1) != 1) = true := bne_iff_ne.mpr c114
                 obtain rfl := Option.some.inj H
                 go_wp2
                 go_ret
                 exact ⟨by first | rfl | (simp [errW_none, errW_some] <;> rfl) | (simp only [← hji111, ← hji113]; first | rfl | (simp [errW_none, errW_some] <;> rfl)) | (simp [*, errW_none, errW_some] <;> rfl), by repeat (first | (with_reducible first | exact HB.out | apply below_alloc | apply pw_below_drewN | apply below_drew1 | refine below_set ?_ GE113.out | refine below_set ?_ GE114.out) | exact HB.out)⟩
               ·rw [if_neg c112] at H
                exact absurd H (by simp)
        ·rw [if_neg c44] at H
         exact absurd H (by simp)
       ·rw [if_neg c43] at H
        exact absurd H (by simp)
      ·rw [if_neg c42] at H
       exact absurd H (by simp)
     ·rw [if_neg c41] at H
      exact absurd H (by simp)
end Go.Proofs.Ytnomeokicfpidaa.Q
