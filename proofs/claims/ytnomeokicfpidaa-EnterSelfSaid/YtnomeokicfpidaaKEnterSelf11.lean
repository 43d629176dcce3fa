-- merged and slimmed by slim.py (a program of this repo)
import Derived.Test.YtnomeokicfpidaaKEnterSelf0
import Derived.Test.YtnomeokicfpidaaKEnterSelf1
import Derived.Test.YtnomeokicfpidaaKEnterSelf3
import Derived.Test.YtnomeokicfpidaaKEnterSelf5
import Derived.Test.YtnomeokicfpidaaKEnterSelf6
import Derived.Test.YtnomeokicfpidaaKEnterSelf7
import Derived.Test.YtnomeokicfpidaaKEnterSelf9
import Derived.Test.YtnomeokicfpidaaKEnterSelf10
namespace Go.Proofs.Ytnomeokicfpidaa.Q
open Go.RowKit Go.Proofs.YtnomeokicfpidaaW.PrintWords Go.Proofs.YtnomeokicfpidaaW.PrintLast Go.Proofs.YtnomeokicfpidaaW.PrintMore
attribute [local go_sem] max2_int min2_int max_two min_two max_three min_three max_four min_four
set_option linter.unusedVariables false
set_option linter.unusedSimpArgs false
mutual
def imprimaturlaw07_EnterSelf.j0 : Nat → Int → List (List Int) → Int → Int → Bool → List Int → List Int → List Int → List Int → Option (Bool)
 | 0, _, _, _, _, _, _, _, _, _ => none
 | k + 1, x3, x4, x13, x14, x60, x114000, x114001, x115000, x115001 => if x60 = true then (some false) else ((imprimaturlaw07_Past.f k x115000 x115001 x4).bind fun t130 => ((enter_Enter.f x114000 x114001 x14 x3 t130).bind fun t133 => ((imprimaturlaw07_bits.f k t133).bind fun t136 => ((enter_Leave.f k x114000 x114001 x13 x14).bind fun t137 => ((imprimaturlaw07_bits.f k t137).bind fun t140 => (imprimaturlaw07_EnterSelf.l0 k x13 x14 t136 t140 (x114000.length : Int) 0 x114000 x114001))))))
def imprimaturlaw07_EnterSelf.l0 : Nat → Int → Int → Int → Int → Int → Int → List Int → List Int → Option (Bool)
 | 0, _, _, _, _, _, _, _, _ => none
 | k + 1, x13, x14, x15, x16, x76, x77, x114000, x114001 => if x77 < x76 then (if x77 = x14 then (if 0 ≤ (IntKind.u64.wrap (x77)) then (if (Go.bits .and .u32 (shr .u32 (Go.bits .or .u32 x15 x16) (IntKind.u64.wrap (x77))) 1) = 1 then (some false) else (imprimaturlaw07_EnterSelf.l0 k x13 x14 x15 x16 x76 (wrap64 (x77 + 1)) x114000 x114001)) else (none)) else ((shape_Under.f k x114000 x114001 x77 x14).bind fun t141 => (if t141 = true then (imprimaturlaw07_EnterSelf.l0 k x13 x14 x15 x16 x76 (wrap64 (x77 + 1)) x114000 x114001) else (if 0 ≤ (IntKind.u64.wrap (x77)) then (if (Go.bits .and .u32 (shr .u32 (Go.bits .or .u32 x15 x16) (IntKind.u64.wrap (x77))) 1) = 1 then (some false) else (imprimaturlaw07_EnterSelf.l0 k x13 x14 x15 x16 x76 (wrap64 (x77 + 1)) x114000 x114001)) else (none))))) else (if x16 = (Go.bits .and .u32 x16 x13) then ((enter_Leave.f k x114000 x114001 x13 (-1)).bind fun t142 => ((imprimaturlaw07_bits.f k t142).bind fun t145 => (if t145 = x13 then ((imprimaturlaw07_wakes.f k).bind fun t146 => (some t146)) else (some false)))) else (some false))
end
def imprimaturlaw07_EnterSelf.f (k : Nat) (l0 : List Int) (l1 : List Int) (a2 : Int) (a3 : Int) (l4 : List (List Int)) : Option (Bool) := (imprimaturlaw06_Of.f k l0).bind fun bt101 => ((imprimaturlaw06_Config.f k bt101.2.2.1 bt101.2.2.2 l1).bind fun t115 => ((imprimaturkeep_Within.f a2 (bt101.1.length : Int)).bind fun t116 => ((imprimaturkeep_Within.f a3 (bt101.1.length : Int)).bind fun t117 => ((shape_Domain.f k bt101.1 bt101.2.1 t116 t117).bind fun t118 => (if 0 ≤ t117 then (if t117 < (bt101.1.length : Int) then (if (rd bt101.1 t117) < 3 then ((imprimaturlaw07_Past.f k bt101.2.2.1 bt101.2.2.2 l4).bind fun t120 => ((enter_Enter.f bt101.1 bt101.2.1 t118 t117 t120).bind fun t123 => ((enter_Enter.f bt101.1 bt101.2.1 t118 t117 ([] : List Int)).bind fun t126 => ((imprimaturkeep_Same_int.f k t123 t126).bind fun t129 => (imprimaturlaw07_EnterSelf.j0 k t117 l4 t115 t118 (!t129) bt101.1 bt101.2.1 bt101.2.2.1 bt101.2.2.2))))) else (imprimaturlaw07_EnterSelf.j0 k t117 l4 t115 t118 false bt101.1 bt101.2.1 bt101.2.2.1 bt101.2.2.2)) else (none)) else (none))))))
def imprimaturlaw07_EnterSelf.T3 : Bool × List (List Nat × List Nat) := (true, [([], []), ([], []), ([1], [1]), ([2], [2]), ([0, 3], [0, 3]), ([], []), ([], []), ([6], [6]), ([7], [7]), ([5, 8, 4], [5, 8]), ([4, 9, 0, 1, 2, 3, 4], [0, 4]), ([9, 10, 0, 1, 2, 3, 4, 5, 6, 7, 8, 9, 10], [5, 9])])
def imprimaturlaw07_EnterSelf.B3 : List Nat := [0, 0, 2, 6, 15, 0, 0, 64, 192, 511, 1023, 2047]
theorem imprimaturlaw07_EnterSelf.tab3 : rtab .any (opsOf Try.f9 3) = imprimaturlaw07_EnterSelf.T3 := by kernel_rfl
theorem imprimaturlaw07_EnterSelf.bits3 : waitsOk imprimaturlaw07_EnterSelf.T3.2 imprimaturlaw07_EnterSelf.B3 = true := by kernel_rfl
def imprimaturlaw07_EnterSelf.T5 : Bool × List (List Nat × List Nat) := (true, [([], []), ([0], [0]), ([], []), ([1, 2], [1, 2]), ([3], [3]), ([4], [4]), ([5], [5]), ([6], [6]), ([6], [6]), ([6], [6]), ([6], [6]), ([6], [6]), ([10, 11, 6, 6], [6, 10, 11]), ([7, 8, 9, 12, 12, 6], [6, 7, 8, 9, 12]), ([6], [6]), ([6], [6]), ([6], [6]), ([14, 15, 16, 13, 6], [6, 14, 15, 16]), ([13, 17, 17, 6], [6, 13, 17]), ([18, 6], [6, 18]), ([6, 19], [6, 19])])
def imprimaturlaw07_EnterSelf.B5 : List Nat := [0, 1, 0, 7, 15, 31, 63, 127, 127, 127, 127, 127, 3199, 8191, 127, 127, 127, 131071, 262143, 524287, 1048575]
theorem imprimaturlaw07_EnterSelf.tab5 : rtab .any (opsOf Try.f9 5) = imprimaturlaw07_EnterSelf.T5 := by kernel_rfl
theorem imprimaturlaw07_EnterSelf.bits5 : waitsOk imprimaturlaw07_EnterSelf.T5.2 imprimaturlaw07_EnterSelf.B5 = true := by kernel_rfl
def imprimaturlaw07_EnterSelf.T7 : Bool × List (List Nat × List Nat) := (true, [([], []), ([], []), ([], []), ([], []), ([], []), ([3, 4], [3, 4]), ([0, 1, 2, 5, 5], [0, 1, 2, 5]), ([6, 6], [6]), ([], []), ([], []), ([], []), ([8, 9, 10, 7], [8, 9, 10]), ([11, 11], [11]), ([7, 12, 0, 1, 2, 3, 4, 5, 6, 7], [7]), ([12, 13, 0, 1, 2, 3, 4, 5, 6, 7, 8, 9, 10, 11, 12, 13], [12])])
def imprimaturlaw07_EnterSelf.B7 : List Nat := [0, 0, 0, 0, 0, 24, 63, 127, 0, 0, 0, 2047, 4095, 8191, 16383]
theorem imprimaturlaw07_EnterSelf.tab7 : rtab .any (opsOf Try.f9 7) = imprimaturlaw07_EnterSelf.T7 := by kernel_rfl
theorem imprimaturlaw07_EnterSelf.bits7 : waitsOk imprimaturlaw07_EnterSelf.T7.2 imprimaturlaw07_EnterSelf.B7 = true := by kernel_rfl
set_option maxHeartbeats 8000000 in
set_option maxRecDepth 100000 in
theorem imprimaturlaw07_EnterSelf.calls (k : Nat) (A0 : Option Addr) (c0 : Nat) (l0 : List Int) (A1 : Option Addr) (c1 : Nat) (l1 : List Int) (a2 : Int) (a3 : Int) (A4 : Option Addr) (c4 : Nat) (l4 : List (List Int)) (r : Bool) (w : World) (hr0 : Kd.C (Kd.int .i64) w A0 l0.length l0) (hc0 : l0.length ≤ c0) (hr1 : Kd.C (Kd.int .i64) w A1 l1.length l1) (hc1 : l1.length ≤ c1) (hr4 : Kd.C (Kd.slice 3 (Kd.int .i64)) w A4 l4.length l4) (hc4 : l4.length ≤ c4) (h : imprimaturlaw07_EnterSelf.f k l0 l1 a2 a3 l4 = some r) :
  Calls Try.prog 9 #[.slice A0 l0.length c0, .slice A1 l1.length c1, .int .i64 a2, .int .i64 a3, .slice A4 l4.length c4] w fun e w' => e = .returned (.bool r) ∧ Below w.heap.size w w' := by
 have hu24 := Try.underlying24
 have hu25 := Try.underlying25
 have HR0 := Aside0.mk hr0
 have HC0 := Aside0.mk hc0
 clear hr0 hc0
 have HR1 := Aside0.mk hr1
 have HC1 := Aside0.mk hc1
 clear hr1 hc1
 have HR4 := Aside0.mk hr4
 have HC4 := Aside0.mk hc4
 clear hr4 hc4
 have HB := Aside0.mk (Below.refl w.heap.size w)
 have H : ((imprimaturlaw06_Of.f k l0).bind fun bt101 => ((imprimaturlaw06_Config.f k bt101.2.2.1 bt101.2.2.2 l1).bind fun t115 => ((imprimaturkeep_Within.f a2 (bt101.1.length : Int)).bind fun t116 => ((imprimaturkeep_Within.f a3 (bt101.1.length : Int)).bind fun t117 => ((shape_Domain.f k bt101.1 bt101.2.1 t116 t117).bind fun t118 => (if 0 ≤ t117 then (if t117 < (bt101.1.length : Int) then (if (rd bt101.1 t117) < 3 then ((imprimaturlaw07_Past.f k bt101.2.2.1 bt101.2.2.2 l4).bind fun t120 => ((enter_Enter.f bt101.1 bt101.2.1 t118 t117 t120).bind fun t123 => ((enter_Enter.f bt101.1 bt101.2.1 t118 t117 ([] : List Int)).bind fun t126 => ((imprimaturkeep_Same_int.f k t123 t126).bind fun t129 => (imprimaturlaw07_EnterSelf.j0 k t117 l4 t115 t118 (!t129) bt101.1 bt101.2.1 bt101.2.2.1 bt101.2.2.2))))) else (imprimaturlaw07_EnterSelf.j0 k t117 l4 t115 t118 false bt101.1 bt101.2.1 bt101.2.2.1 bt101.2.2.2)) else (none)) else (none))))))) = some r := h
 clear h
 replace H := Option.bind_eq_some_iff.mp H
 obtain ⟨⟨t101, t104, t107, t110⟩, A60, H⟩ := H
 replace H : ((imprimaturlaw06_Config.f k t107 t110 l1).bind fun t115 => ((imprimaturkeep_Within.f a2 (t101.length : Int)).bind fun t116 => ((imprimaturkeep_Within.f a3 (t101.length : Int)).bind fun t117 => ((shape_Domain.f k t101 t104 t116 t117).bind fun t118 => (if 0 ≤ t117 then (if t117 < (t101.length : Int) then (if (rd t101 t117) < 3 then ((imprimaturlaw07_Past.f k t107 t110 l4).bind fun t120 => ((enter_Enter.f t101 t104 t118 t117 t120).bind fun t123 => ((enter_Enter.f t101 t104 t118 t117 ([] : List Int)).bind fun t126 => ((imprimaturkeep_Same_int.f k t123 t126).bind fun t129 => (imprimaturlaw07_EnterSelf.j0 k t117 l4 t115 t118 (!t129) t101 t104 t107 t110))))) else (imprimaturlaw07_EnterSelf.j0 k t117 l4 t115 t118 false t101 t104 t107 t110)) else (none)) else (none)))))) = some r := H
 have A6 := Aside0.mk A60
 clear A60
 replace H := Option.bind_eq_some_iff.mp H
 obtain ⟨t115, A70, H⟩ := H
 replace H : ((imprimaturkeep_Within.f a2 (t101.length : Int)).bind fun t116 => ((imprimaturkeep_Within.f a3 (t101.length : Int)).bind fun t117 => ((shape_Domain.f k t101 t104 t116 t117).bind fun t118 => (if 0 ≤ t117 then (if t117 < (t101.length : Int) then (if (rd t101 t117) < 3 then ((imprimaturlaw07_Past.f k t107 t110 l4).bind fun t120 => ((enter_Enter.f t101 t104 t118 t117 t120).bind fun t123 => ((enter_Enter.f t101 t104 t118 t117 ([] : List Int)).bind fun t126 => ((imprimaturkeep_Same_int.f k t123 t126).bind fun t129 => (imprimaturlaw07_EnterSelf.j0 k t117 l4 t115 t118 (!t129) t101 t104 t107 t110))))) else (imprimaturlaw07_EnterSelf.j0 k t117 l4 t115 t118 false t101 t104 t107 t110)) else (none)) else (none))))) = some r := H
 have A7 := Aside0.mk A70
 clear A70
 replace H := Option.bind_eq_some_iff.mp H
 obtain ⟨t116, A80, H⟩ := H
 replace H : ((imprimaturkeep_Within.f a3 (t101.length : Int)).bind fun t117 => ((shape_Domain.f k t101 t104 t116 t117).bind fun t118 => (if 0 ≤ t117 then (if t117 < (t101.length : Int) then (if (rd t101 t117) < 3 then ((imprimaturlaw07_Past.f k t107 t110 l4).bind fun t120 => ((enter_Enter.f t101 t104 t118 t117 t120).bind fun t123 => ((enter_Enter.f t101 t104 t118 t117 ([] : List Int)).bind fun t126 => ((imprimaturkeep_Same_int.f k t123 t126).bind fun t129 => (imprimaturlaw07_EnterSelf.j0 k t117 l4 t115 t118 (!t129) t101 t104 t107 t110))))) else (imprimaturlaw07_EnterSelf.j0 k t117 l4 t115 t118 false t101 t104 t107 t110)) else (none)) else (none)))) = some r := H
 have A8 := Aside0.mk A80
 clear A80
 replace H := Option.bind_eq_some_iff.mp H
 obtain ⟨t117, A90, H⟩ := H
 replace H : ((shape_Domain.f k t101 t104 t116 t117).bind fun t118 => (if 0 ≤ t117 then (if t117 < (t101.length : Int) then (if (rd t101 t117) < 3 then ((imprimaturlaw07_Past.f k t107 t110 l4).bind fun t120 => ((enter_Enter.f t101 t104 t118 t117 t120).bind fun t123 => ((enter_Enter.f t101 t104 t118 t117 ([] : List Int)).bind fun t126 => ((imprimaturkeep_Same_int.f k t123 t126).bind fun t129 => (imprimaturlaw07_EnterSelf.j0 k t117 l4 t115 t118 (!t129) t101 t104 t107 t110))))) else (imprimaturlaw07_EnterSelf.j0 k t117 l4 t115 t118 false t101 t104 t107 t110)) else (none)) else (none))) = some r := H
 have A9 := Aside0.mk A90
 clear A90
 replace H := Option.bind_eq_some_iff.mp H
 obtain ⟨t118, A100, H⟩ := H
 replace H : (if 0 ≤ t117 then (if t117 < (t101.length : Int) then (if (rd t101 t117) < 3 then ((imprimaturlaw07_Past.f k t107 t110 l4).bind fun t120 => ((enter_Enter.f t101 t104 t118 t117 t120).bind fun t123 => ((enter_Enter.f t101 t104 t118 t117 ([] : List Int)).bind fun t126 => ((imprimaturkeep_Same_int.f k t123 t126).bind fun t129 => (imprimaturlaw07_EnterSelf.j0 k t117 l4 t115 t118 (!t129) t101 t104 t107 t110))))) else (imprimaturlaw07_EnterSelf.j0 k t117 l4 t115 t118 false t101 t104 t107 t110)) else (none)) else (none)) = some r := H
 have A10 := Aside0.mk A100
 clear A100
 have HC11 := Aside0.mk H
 clear H
 go_enter Try.func9, Try.ntmps9
 try go_wp2_with (first | ((with_reducible refine gate_callee (f := 13) rfl ?_); refine goesL_ (some 20) rfl rfl Try.func13 (by kernel_rfl) rfl #[.slice A0 l0.length c0] rfl (by (try simp only [List.map_toArray, List.map_cons, List.map_nil]); first | done | rfl | (simp only [List.length_drop, List.length_take]; rfl)) ?_; (with_reducible refine (imprimaturlaw06_Of.calls k _ _ l0 t101 t104 t107 t110 _ ?side1 ?side2 A6.out).mono ?_); (case side1 => repeat (first | exact HR0.out | (with_reducible refine Kd.C_alloc ?_ _) | (with_reducible refine Kd.C_drewN ?_ _) | (with_reducible refine Kd.C_drew ?_))); (case side2 => exact HC0.out); rintro e w12 ⟨v102, v105, v108, v111, rfl, ho0, ho1, ho2, ho3, hb⟩; refine ⟨_, rfl, ?_⟩; have n0_ := Aside0.mk (Kd.R_lower ho0 (below_size (by repeat (first | (with_reducible first | exact HB.out | apply below_alloc | apply pw_below_drewN | apply below_drew1) | exact HB.out)))); have n1_ := Aside0.mk (Kd.R_lower ho1 (below_size (by repeat (first | (with_reducible first | exact HB.out | apply below_alloc | apply pw_below_drewN | apply below_drew1) | exact HB.out)))); have n2_ := Aside0.mk (Kd.R_lower ho2 (below_size (by repeat (first | (with_reducible first | exact HB.out | apply below_alloc | apply pw_below_drewN | apply below_drew1) | exact HB.out)))); have n3_ := Aside0.mk (Kd.R_lower ho3 (below_size (by repeat (first | (with_reducible first | exact HB.out | apply below_alloc | apply pw_below_drewN | apply below_drew1) | exact HB.out)))); have n4_ := Aside0.mk (below_step (by repeat (first | (with_reducible first | exact HB.out | apply below_alloc | apply pw_below_drewN | apply below_drew1) | exact HB.out)) hb); clear HB; have HO103 := n0_; have HO106 := n1_; have HO109 := n2_; have HO112 := n3_; have HB := n4_; clear n0_ n1_ n2_ n3_ n4_; (try clear hb); (try clear hb2); (try clear hk); (try clear hi); (try clear ho0); (try clear ho1); (try clear ho2); (try clear ho3)) | ((with_reducible refine gate_dst (N := 11) rfl ?_); refine box_event ?hg (N := 11) ?hd (cs := #[.slice none 0 0, .slice none 0 0]) (t := 24) ?hr ?_; (case hd => rfl); (case hg => rfl); (case hr => first | (go_simp; done) | (go_simp; rfl)); intro gb113 hg w13 hbox hb; have n0_ := Aside0.mk (Kd.R_below (by (with_reducible repeat (first | apply Kd.R_alloc | apply Kd.R_drewN | apply Kd.R_drew)); exact HO103.out) hb); have n1_ := Aside0.mk (Kd.R_below (by (with_reducible repeat (first | apply Kd.R_alloc | apply Kd.R_drewN | apply Kd.R_drew)); exact HO106.out) hb); have n2_ := Aside0.mk (Kd.R_below (by (with_reducible repeat (first | apply Kd.R_alloc | apply Kd.R_drewN | apply Kd.R_drew)); exact HO109.out) hb); have n3_ := Aside0.mk (Kd.R_below (by (with_reducible repeat (first | apply Kd.R_alloc | apply Kd.R_drewN | apply Kd.R_drew)); exact HO112.out) hb); have n4_ := Aside0.mk (below_step (by repeat (first | (with_reducible first | exact HB.out | apply below_alloc | apply pw_below_drewN | apply below_drew1) | exact HB.out)) hb); have n5_ := Aside0.mk (hbox); have n6_ := Aside0.mk ((by rw [hg]; exact (below_size (by repeat (first | (with_reducible first | exact HB.out | apply below_alloc | apply pw_below_drewN | apply below_drew1) | exact HB.out))) : w.heap.size ≤ gb113)); have n7_ := Aside0.mk ((by rw [hg]; exact (below_size (by repeat (first | (with_reducible first | exact HB.out | apply below_alloc | apply pw_below_drewN | apply below_drew1) | exact HB.out))) : w.heap.size ≤ gb113)); clear HO103; clear HO106; clear HO109; clear HO112; clear HB; have HO103 := n0_; have HO106 := n1_; have HO109 := n2_; have HO112 := n3_; have HB := n4_; have BK113 := n5_; have GW113 := n6_; have GE113 := n7_; clear n0_ n1_ n2_ n3_ n4_ n5_ n6_ n7_; clear hb hbox hg) | ((with_reducible refine gate_dst (N := 12) rfl ?_); refine box_event ?hg (N := 12) ?hd (cs := #[.slice none 0 0, .slice none 0 0]) (t := 25) ?hr ?_; (case hd => rfl); (case hg => rfl); (case hr => first | (go_simp; done) | (go_simp; rfl)); intro gb114 hg w14 hbox hb; have n0_ := Aside0.mk (Kd.R_below (by (with_reducible repeat (first | apply Kd.R_alloc | apply Kd.R_drewN | apply Kd.R_drew)); exact HO103.out) hb); have n1_ := Aside0.mk (Kd.R_below (by (with_reducible repeat (first | apply Kd.R_alloc | apply Kd.R_drewN | apply Kd.R_drew)); exact HO106.out) hb); have n2_ := Aside0.mk (Kd.R_below (by (with_reducible repeat (first | apply Kd.R_alloc | apply Kd.R_drewN | apply Kd.R_drew)); exact HO109.out) hb); have n3_ := Aside0.mk (Kd.R_below (by (with_reducible repeat (first | apply Kd.R_alloc | apply Kd.R_drewN | apply Kd.R_drew)); exact HO112.out) hb); have n4_ := Aside0.mk (blk_below (g := gb113) (o := .cells #[.slice none 0 0, .slice none 0 0] 24 (0, 0)) (by (with_reducible repeat (first | refine blk_drewN ?_ _ | refine blk_drew ?_ | refine blk_alloc ?_ _)); exact BK113.out) hb); have n5_ := Aside0.mk (below_step (by repeat (first | (with_reducible first | exact HB.out | apply below_alloc | apply pw_below_drewN | apply below_drew1 | refine below_set ?_ GE113.out) | exact HB.out)) hb); have n6_ := Aside0.mk (hbox); have n7_ := Aside0.mk ((by rw [hg]; exact (below_size (by repeat (first | (with_reducible first | exact HB.out | apply below_alloc | apply pw_below_drewN | apply below_drew1 | refine below_set ?_ GE113.out) | exact HB.out))) : w.heap.size ≤ gb114)); have n8_ := Aside0.mk ((by rw [hg]; exact (below_size (by repeat (first | (with_reducible first | exact HB.out | apply below_alloc | apply pw_below_drewN | apply below_drew1 | refine below_set ?_ GE113.out) | exact HB.out))) : w.heap.size ≤ gb114)); have n9_ := Aside0.mk ((by rw [hg]; exact Nat.ne_of_lt (blk_lt (g := gb113) (o := .cells #[.slice none 0 0, .slice none 0 0] 24 (0, 0)) (by (with_reducible repeat (first | refine blk_drewN ?_ _ | refine blk_drew ?_ | refine blk_alloc ?_ _)); exact BK113.out)) : gb113 ≠ gb114)); have n10_ := Aside0.mk ((by rw [hg]; exact Nat.ne_of_gt (blk_lt (g := gb113) (o := .cells #[.slice none 0 0, .slice none 0 0] 24 (0, 0)) (by (with_reducible repeat (first | refine blk_drewN ?_ _ | refine blk_drew ?_ | refine blk_alloc ?_ _)); exact BK113.out)) : gb114 ≠ gb113)); clear HO103; clear HO106; clear HO109; clear HO112; clear BK113; clear HB; have HO103 := n0_; have HO106 := n1_; have HO109 := n2_; have HO112 := n3_; have BK113 := n4_; have HB := n5_; have BK114 := n6_; have GW114 := n7_; have GE114 := n8_; have NB113_114 := n9_; have NB114_113 := n10_; clear n0_ n1_ n2_ n3_ n4_ n5_ n6_ n7_ n8_ n9_ n10_; clear hb hbox hg; obtain ⟨Ao15, co15, eo15⟩ := Kd.R_slice HO103.out; subst eo15; have hnb16 := NB113_114.out; have hnc16 := NB114_113.out; have hcz17_0 : w14.cell? ⟨gb113, 0, none⟩ = some (.slice none 0 0) := (blk_cell BK113.out 0).trans rfl; have hcz17_1 : w14.cell? ⟨gb113, 1, none⟩ = some (.slice none 0 0) := (blk_cell BK113.out 1).trans rfl; have hfz17_0 := blk_frozen BK113.out 0; have hfz17_1 := blk_frozen BK113.out 1; obtain ⟨Ao18, co18, eo18⟩ := Kd.R_slice HO106.out; subst eo18; obtain ⟨Ao19, co19, eo19⟩ := Kd.R_slice HO109.out; subst eo19; have hcz20_0 : w14.cell? ⟨gb114, 0, none⟩ = some (.slice none 0 0) := (blk_cell BK114.out 0).trans rfl; have hcz20_1 : w14.cell? ⟨gb114, 1, none⟩ = some (.slice none 0 0) := (blk_cell BK114.out 1).trans rfl; have hfz20_0 := blk_frozen BK114.out 0; have hfz20_1 := blk_frozen BK114.out 1; obtain ⟨Ao21, co21, eo21⟩ := Kd.R_slice HO112.out; subst eo21) | ((with_reducible refine gate_callee (f := 18) rfl ?_); refine goesL_ (some 25) rfl rfl Try.func18 (by kernel_rfl) rfl #[.agg #[.slice Ao19 t107.length co19, .slice Ao21 t110.length co21], .slice A1 l1.length c1] rfl (by (try simp only [List.map_toArray, List.map_cons, List.map_nil]); first | done | rfl | (simp only [List.length_drop, List.length_take]; rfl)) ?_; (with_reducible refine (imprimaturlaw06_Config.calls k _ _ t107 _ _ t110 _ _ l1 t115 _ ?side1 ?side2 ?side3 ?side4 ?side5 ?side6 A7.out).mono ?_); (case side1 => refine (Kd.R_reads' (e := 3) (base := w.heap.size) (ok := fun k_ => (some k_ ≠ (.slice Ao15 t101.length co15 : Value).ownBlock ∧ (some k_ ≠ (.slice Ao18 t104.length co18 : Value).ownBlock ∧ some k_ ≠ (.slice Ao21 t110.length co21 : Value).ownBlock))) (n := t107.length) (c := co19) ?_).2.2; exact (by (with_reducible repeat (first | apply Kd.R_alloc | apply Kd.R_drewN | apply Kd.R_drew)); exact (Kd.R_mono (Kd.R_mono (Kd.R_far (p := ⟨gb114, 1, none⟩) (Kd.R_far (p := ⟨gb114, 0, none⟩) (Kd.R_far (p := ⟨gb113, 1, none⟩) (Kd.R_far (p := ⟨gb113, 0, none⟩) (Kd.R_types (Kd.R_types HO109.out BK113.out (by decide)) BK114.out (by decide)) (fun _ hk => hk.1.2) (.slice Ao15 t101.length co15)) (fun _ hk => hk.1.2) (.slice Ao18 t104.length co18)) (fun _ hk => hk.2) (.slice Ao19 t107.length co19)) (fun _ hk => hk.2) (.slice Ao21 t110.length co21)) (fun _ h_ => h_.1)) (fun _ h_ => h_.1)))); (case side2 => exact (Kd.R_reads' HO109.out).2.1); (case side3 => refine (Kd.R_reads' (e := 3) (base := w.heap.size) (ok := fun k_ => (some k_ ≠ (.slice Ao15 t101.length co15 : Value).ownBlock ∧ (some k_ ≠ (.slice Ao18 t104.length co18 : Value).ownBlock ∧ some k_ ≠ (.slice Ao19 t107.length co19 : Value).ownBlock))) (n := t110.length) (c := co21) ?_).2.2; exact (by (with_reducible repeat (first | apply Kd.R_alloc | apply Kd.R_drewN | apply Kd.R_drew)); exact (Kd.R_mono (Kd.R_mono (Kd.R_far (p := ⟨gb114, 1, none⟩) (Kd.R_far (p := ⟨gb114, 0, none⟩) (Kd.R_far (p := ⟨gb113, 1, none⟩) (Kd.R_far (p := ⟨gb113, 0, none⟩) (Kd.R_types (Kd.R_types HO112.out BK113.out (by decide)) BK114.out (by decide)) (fun _ hk => hk.1.2) (.slice Ao15 t101.length co15)) (fun _ hk => hk.1.2) (.slice Ao18 t104.length co18)) (fun _ hk => hk.2) (.slice Ao19 t107.length co19)) (fun _ hk => hk.2) (.slice Ao21 t110.length co21)) (fun _ h_ => h_.1)) (fun _ h_ => h_.1)))); (case side4 => exact (Kd.R_reads' HO112.out).2.1); (case side5 => exact Kd.C_below HR1.out (by repeat (first | (with_reducible first | exact HB.out | apply below_alloc | apply pw_below_drewN | apply below_drew1 | refine below_set ?_ GE113.out | refine below_set ?_ GE114.out) | exact HB.out))); (case side6 => exact HC1.out); rintro e w22 ⟨rfl, hb⟩; refine ⟨_, rfl, ?_⟩; have n0_ := Aside0.mk (Kd.R_below (by (with_reducible repeat (first | apply Kd.R_alloc | apply Kd.R_drewN | apply Kd.R_drew)); exact (Kd.R_mono (Kd.R_mono (Kd.R_far (p := ⟨gb114, 1, none⟩) (Kd.R_far (p := ⟨gb114, 0, none⟩) (Kd.R_far (p := ⟨gb113, 1, none⟩) (Kd.R_far (p := ⟨gb113, 0, none⟩) (Kd.R_types (Kd.R_types HO103.out BK113.out (by decide)) BK114.out (by decide)) (fun _ hk => hk.1.2) (.slice Ao15 t101.length co15)) (fun _ hk => hk.1.2) (.slice Ao18 t104.length co18)) (fun _ hk => hk.2) (.slice Ao19 t107.length co19)) (fun _ hk => hk.2) (.slice Ao21 t110.length co21)) (fun _ h_ => h_.1)) (fun _ h_ => h_.1))) hb); have n1_ := Aside0.mk (Kd.R_below (by (with_reducible repeat (first | apply Kd.R_alloc | apply Kd.R_drewN | apply Kd.R_drew)); exact (Kd.R_mono (Kd.R_mono (Kd.R_far (p := ⟨gb114, 1, none⟩) (Kd.R_far (p := ⟨gb114, 0, none⟩) (Kd.R_far (p := ⟨gb113, 1, none⟩) (Kd.R_far (p := ⟨gb113, 0, none⟩) (Kd.R_types (Kd.R_types HO106.out BK113.out (by decide)) BK114.out (by decide)) (fun _ hk => hk.1.2) (.slice Ao15 t101.length co15)) (fun _ hk => hk.1.2) (.slice Ao18 t104.length co18)) (fun _ hk => hk.2) (.slice Ao19 t107.length co19)) (fun _ hk => hk.2) (.slice Ao21 t110.length co21)) (fun _ h_ => h_.1)) (fun _ h_ => h_.1))) hb); have n2_ := Aside0.mk (Kd.R_below (by (with_reducible repeat (first | apply Kd.R_alloc | apply Kd.R_drewN | apply Kd.R_drew)); exact (Kd.R_mono (Kd.R_mono (Kd.R_far (p := ⟨gb114, 1, none⟩) (Kd.R_far (p := ⟨gb114, 0, none⟩) (Kd.R_far (p := ⟨gb113, 1, none⟩) (Kd.R_far (p := ⟨gb113, 0, none⟩) (Kd.R_types (Kd.R_types HO109.out BK113.out (by decide)) BK114.out (by decide)) (fun _ hk => hk.1.2) (.slice Ao15 t101.length co15)) (fun _ hk => hk.1.2) (.slice Ao18 t104.length co18)) (fun _ hk => hk.2) (.slice Ao19 t107.length co19)) (fun _ hk => hk.2) (.slice Ao21 t110.length co21)) (fun _ h_ => h_.1)) (fun _ h_ => h_.1))) hb); have n3_ := Aside0.mk (Kd.R_below (by (with_reducible repeat (first | apply Kd.R_alloc | apply Kd.R_drewN | apply Kd.R_drew)); exact (Kd.R_mono (Kd.R_mono (Kd.R_far (p := ⟨gb114, 1, none⟩) (Kd.R_far (p := ⟨gb114, 0, none⟩) (Kd.R_far (p := ⟨gb113, 1, none⟩) (Kd.R_far (p := ⟨gb113, 0, none⟩) (Kd.R_types (Kd.R_types HO112.out BK113.out (by decide)) BK114.out (by decide)) (fun _ hk => hk.1.2) (.slice Ao15 t101.length co15)) (fun _ hk => hk.1.2) (.slice Ao18 t104.length co18)) (fun _ hk => hk.2) (.slice Ao19 t107.length co19)) (fun _ hk => hk.2) (.slice Ao21 t110.length co21)) (fun _ h_ => h_.1)) (fun _ h_ => h_.1))) hb); have n4_ := Aside0.mk (blk_below (g := gb113) (o := .cells #[.slice Ao15 t101.length co15, .slice Ao18 t104.length co18] 24 (0, 0)) (by (with_reducible repeat (first | refine blk_drewN ?_ _ | refine blk_drew ?_ | refine blk_alloc ?_ _)); refine blk_far ?_ NB113_114.out _; (with_reducible repeat (first | refine blk_drewN ?_ _ | refine blk_drew ?_ | refine blk_alloc ?_ _)); refine blk_far ?_ NB113_114.out _; (with_reducible repeat (first | refine blk_drewN ?_ _ | refine blk_drew ?_ | refine blk_alloc ?_ _)); refine blk_put (cs := #[.slice Ao15 t101.length co15, .slice none 0 0]) ?_ 1 _ rfl; (with_reducible repeat (first | refine blk_drewN ?_ _ | refine blk_drew ?_ | refine blk_alloc ?_ _)); refine blk_put (cs := #[.slice none 0 0, .slice none 0 0]) ?_ 0 _ rfl; (with_reducible repeat (first | refine blk_drewN ?_ _ | refine blk_drew ?_ | refine blk_alloc ?_ _)); exact BK113.out) hb); have n5_ := Aside0.mk (blk_below (g := gb114) (o := .cells #[.slice Ao19 t107.length co19, .slice Ao21 t110.length co21] 25 (0, 0)) (by (with_reducible repeat (first | refine blk_drewN ?_ _ | refine blk_drew ?_ | refine blk_alloc ?_ _)); refine blk_put (cs := #[.slice Ao19 t107.length co19, .slice none 0 0]) ?_ 1 _ rfl; (with_reducible repeat (first | refine blk_drewN ?_ _ | refine blk_drew ?_ | refine blk_alloc ?_ _)); refine blk_put (cs := #[.slice none 0 0, .slice none 0 0]) ?_ 0 _ rfl; (with_reducible repeat (first | refine blk_drewN ?_ _ | refine blk_drew ?_ | refine blk_alloc ?_ _)); refine blk_far ?_ NB114_113.out _; (with_reducible repeat (first | refine blk_drewN ?_ _ | refine blk_drew ?_ | refine blk_alloc ?_ _)); refine blk_far ?_ NB114_113.out _; (with_reducible repeat (first | refine blk_drewN ?_ _ | refine blk_drew ?_ | refine blk_alloc ?_ _)); exact BK114.out) hb); have n6_ := Aside0.mk (below_step (by repeat (first | (with_reducible first | exact HB.out | apply below_alloc | apply pw_below_drewN | apply below_drew1 | refine below_set ?_ GE113.out | refine below_set ?_ GE114.out) | exact HB.out)) hb); clear HO103; clear HO106; clear HO109; clear HO112; clear BK113; clear BK114; clear HB; have HO103 := n0_; have HO106 := n1_; have HO109 := n2_; have HO112 := n3_; have BK113 := n4_; have BK114 := n5_; have HB := n6_; clear n0_ n1_ n2_ n3_ n4_ n5_ n6_; (try clear hb); (try clear hb2); (try clear hk); (try clear hi)))
 have n0_ := Aside0.mk (Kd.R_drew HO103.out)
 have n1_ := Aside0.mk (Kd.R_drew HO106.out)
 have n2_ := Aside0.mk (Kd.R_drew HO109.out)
 have n3_ := Aside0.mk (Kd.R_drew HO112.out)
 have n4_ := Aside0.mk (blk_drew BK113.out)
 have n5_ := Aside0.mk (blk_drew BK114.out)
 have n6_ := Aside0.mk (below_drew1 HB.out)
 clear HO103
 clear HO106
 clear HO109
 clear HO112
 clear BK113
 clear BK114
 clear HB
 have HO103 := n0_
 have HO106 := n1_
 have HO109 := n2_
 have HO112 := n3_
 have BK113 := n4_
 have BK114 := n5_
 have HB := n6_
 clear n0_ n1_ n2_ n3_ n4_ n5_ n6_
 refine start_ (n := 12) (S := fun w' => w'.cell? ⟨gb113, 0, none⟩ = some (.slice Ao15 t101.length co15) ∧ w'.cell? ⟨gb113, 1, none⟩ = some (.slice Ao18 t104.length co18)) (ds := []) #[false, false, false, false, false, false, false, false, false, false, false, false] (by kernel_rfl) rfl rfl ⟨(blk_cell BK113.out 0).trans rfl, (blk_cell BK113.out 1).trans rfl⟩ (fun hHeld => ?_); refine with_tabW imprimaturlaw07_EnterSelf.tab3 imprimaturlaw07_EnterSelf.bits3 (fun HT_ HW_ => ?_)
 generalize w22.drew = w23 at HO103 HO106 HO109 HO112 BK113 BK114 HB hHeld ⊢
 refine pure_ (i := 0) (N := some 26) (v := ?_) (a' := ?_) #[true, false, false, false, false, false, false, false, false, false, false, false] rfl rfl (any_of HT_.out (by kernel_rfl)) (fun _ _ _ h => h) (Or.inl ⟨by rfl, ?_⟩) ?_ ?_
 rotate_left
 ·intro w'
  go_simp
  with_reducible rfl
 rotate_left
 ·simp only [Act.put, List.setIfInBounds_toArray, List.set_cons_zero, List.set_cons_succ, i64_w, i32_w]
  rfl
 refine pure_ (i := 1) (N := some 27) (v := ?_) (a' := ?_) #[true, true, false, false, false, false, false, false, false, false, false, false] rfl rfl (any_of HT_.out (by kernel_rfl)) (fun _ _ _ h => h) (Or.inl ⟨by rfl, ?_⟩) ?_ ?_
 rotate_left
 ·intro w'
  go_simp
  with_reducible rfl
 rotate_left
 ·simp only [Act.put, List.setIfInBounds_toArray, List.set_cons_zero, List.set_cons_succ, i64_w, i32_w]
  rfl
 refine pure_ (i := 5) (N := some 31) (v := ?_) (a' := ?_) #[true, true, false, false, false, true, false, false, false, false, false, false] rfl rfl (any_of HT_.out (by kernel_rfl)) (fun _ _ _ h => h) (Or.inl ⟨by rfl, ?_⟩) ?_ ?_
 rotate_left
 ·intro w'
  go_simp
  with_reducible rfl
 rotate_left
 ·simp only [Act.put, List.setIfInBounds_toArray, List.set_cons_zero, List.set_cons_succ, i64_w, i32_w]
  rfl
 refine pure_ (i := 6) (N := some 32) (v := ?_) (a' := ?_) #[true, true, false, false, false, true, true, false, false, false, false, false] rfl rfl (any_of HT_.out (by kernel_rfl)) (fun _ _ _ h => h) (Or.inl ⟨by rfl, ?_⟩) ?_ ?_
 rotate_left
 ·intro w'
  go_simp
  with_reducible rfl
 rotate_left
 ·simp only [Act.put, List.setIfInBounds_toArray, List.set_cons_zero, List.set_cons_succ, i64_w, i32_w]
  rfl
 refine take_ (i := 2) (N := some 28) (v := ?_) (a' := ?_) #[true, true, true, false, false, true, true, false, false, false, false, false] rfl rfl (take_ofW HT_.out HW_.out (by kernel_rfl)) (fun _ _ _ h => h) (Or.inl ⟨by rfl, ?_⟩) hHeld ?_ ?_
 rotate_left
 ·rintro w' ⟨s0, s1⟩
  go_simp
  with_reducible rfl
 rotate_left
 ·simp only [Act.put, List.setIfInBounds_toArray, List.set_cons_zero, List.set_cons_succ, i64_w, i32_w]
  rfl
 refine pure_ (i := 3) (N := some 29) (v := ?_) (a' := ?_) #[true, true, true, true, false, true, true, false, false, false, false, false] rfl rfl (any_of HT_.out (by kernel_rfl)) (fun _ _ _ h => h) (Or.inl ⟨by rfl, ?_⟩) ?_ ?_
 rotate_left
 ·intro w'
  go_simp
  with_reducible rfl
 rotate_left
 ·simp only [Act.put, List.setIfInBounds_toArray, List.set_cons_zero, List.set_cons_succ, i64_w, i32_w]
  rfl
 refine take_ (i := 7) (N := some 33) (v := ?_) (a' := ?_) #[true, true, true, true, false, true, true, true, false, false, false, false] rfl rfl (take_ofW HT_.out HW_.out (by kernel_rfl)) (fun _ _ _ h => h) (Or.inl ⟨by rfl, ?_⟩) hHeld ?_ ?_
 rotate_left
 ·rintro w' ⟨s0, s1⟩
  go_simp
  with_reducible rfl
 rotate_left
 ·simp only [Act.put, List.setIfInBounds_toArray, List.set_cons_zero, List.set_cons_succ, i64_w, i32_w]
  rfl
 refine pure_ (i := 8) (N := some 34) (v := ?_) (a' := ?_) #[true, true, true, true, false, true, true, true, true, false, false, false] rfl rfl (any_of HT_.out (by kernel_rfl)) (fun _ _ _ h => h) (Or.inl ⟨by rfl, ?_⟩) ?_ ?_
 rotate_left
 ·intro w'
  go_simp
  with_reducible rfl
 rotate_left
 ·simp only [Act.put, List.setIfInBounds_toArray, List.set_cons_zero, List.set_cons_succ, i64_w, i32_w]
  rfl
 refine one_ (i := 4) (N := some 30) #[true, true, true, true, true, true, true, true, true, false, false, false] rfl rfl (one_of HT_.out (by kernel_rfl)) (by decide) (fun K hK => ?_)
 refine goes_ Try.func19 (by kernel_rfl) rfl #[.int .i64 a2, .int .i64 (t101.length : Int)] (by rfl) rfl rfl (by (try simp only [List.map_toArray, List.map_cons, List.map_nil]); first | done | rfl | (simp only [List.length_drop, List.length_take]; rfl)) ?_
 with_reducible refine (imprimaturkeep_Within.calls a2 (t101.length : Int) t116 _ A8.out).mono ?_
 rintro e w' ⟨rfl, ⟨nd, rfl⟩⟩
 refine ⟨_, rfl, ?_⟩
 refine hK.out _ _ ⟨(blk_cell BK113.out 0).trans rfl, (blk_cell BK113.out 1).trans rfl⟩ (fun hHeld => ?_)
 clear hK K
 refine norm_ (a' := ?_) ?_ ?_
 rotate_left
 ·show Act.put _ (some 30) _ = _
  simp only [Act.put, List.setIfInBounds_toArray, List.set_cons_zero, List.set_cons_succ, i64_w, i32_w]
  rfl
 refine one_ (i := 9) (N := some 35) #[true, true, true, true, true, true, true, true, true, true, false, false] rfl rfl (one_of HT_.out (by kernel_rfl)) (by decide) (fun K hK => ?_)
 refine goes_ Try.func19 (by kernel_rfl) rfl #[.int .i64 a3, .int .i64 (t101.length : Int)] (by rfl) rfl rfl (by (try simp only [List.map_toArray, List.map_cons, List.map_nil]); first | done | rfl | (simp only [List.length_drop, List.length_take]; rfl)) ?_
 with_reducible refine (imprimaturkeep_Within.calls a3 (t101.length : Int) t117 _ A9.out).mono ?_
 rintro e w' ⟨rfl, ⟨nd, rfl⟩⟩
 refine ⟨_, rfl, ?_⟩
 refine hK.out _ _ ⟨(blk_cell BK113.out 0).trans rfl, (blk_cell BK113.out 1).trans rfl⟩ (fun hHeld => ?_)
 clear hK K
 refine norm_ (a' := ?_) ?_ ?_
 rotate_left
 ·show Act.put _ (some 35) _ = _
  simp only [Act.put, List.setIfInBounds_toArray, List.set_cons_zero, List.set_cons_succ, i64_w, i32_w]
  rfl
 refine pure_ (i := 10) (N := some 2) (v := ?_) (a' := ?_) #[true, true, true, true, true, true, true, true, true, true, true, false] rfl rfl (any_of HT_.out (by kernel_rfl)) (fun _ _ _ h => h) (Or.inl ⟨by rfl, ?_⟩) ?_ ?_
 rotate_left
 ·intro w'
  go_simp
  with_reducible rfl
 rotate_left
 ·simp only [Act.put, List.setIfInBounds_toArray, List.set_cons_zero, List.set_cons_succ, i64_w, i32_w]
  rfl
 refine pure_ (i := 11) (N := some 3) (v := ?_) (a' := ?_) #[true, true, true, true, true, true, true, true, true, true, true, true] rfl rfl (any_of HT_.out (by kernel_rfl)) (fun _ _ _ h => h) (Or.inl ⟨by rfl, ?_⟩) ?_ ?_
 rotate_left
 ·intro w'
  go_simp
  with_reducible rfl
 rotate_left
 ·simp only [Act.put, List.setIfInBounds_toArray, List.set_cons_zero, List.set_cons_succ, i64_w, i32_w]
  rfl
 refine done_ (done_of HT_.out (by kernel_rfl)) ?_
 have hcz24_0 : w23.cell? ⟨gb113, 0, none⟩ = some (.slice Ao15 t101.length co15) := (blk_cell BK113.out 0).trans rfl
 have hcz24_1 : w23.cell? ⟨gb113, 1, none⟩ = some (.slice Ao18 t104.length co18) := (blk_cell BK113.out 1).trans rfl
 have hfz24_0 := blk_frozen BK113.out 0
 have hfz24_1 := blk_frozen BK113.out 1
 go_upto_region 5 with (first | ((with_reducible refine gate_callee (f := 31) rfl ?_); refine goesL_ (some 39) rfl rfl Try.func31 (by kernel_rfl) rfl #[.agg #[.slice Ao15 t101.length co15, .slice Ao18 t104.length co18], .int .i64 t116, .int .i64 t117] rfl (by (try simp only [List.map_toArray, List.map_cons, List.map_nil]); first | done | rfl | (simp only [List.length_drop, List.length_take]; rfl)) ?_; (with_reducible refine (shape_Domain.calls k _ _ t101 _ _ t104 t116 t117 t118 _ ?side1 ?side2 ?side3 ?side4 A10.out).mono ?_); (case side1 => repeat (first | exact (Kd.R_reads' HO103.out).2.2 | (with_reducible refine Kd.C_alloc ?_ _) | (with_reducible refine Kd.C_drewN ?_ _) | (with_reducible refine Kd.C_drew ?_))); (case side2 => exact (Kd.R_reads' HO103.out).2.1); (case side3 => repeat (first | exact (Kd.R_reads' HO106.out).2.2 | (with_reducible refine Kd.C_alloc ?_ _) | (with_reducible refine Kd.C_drewN ?_ _) | (with_reducible refine Kd.C_drew ?_))); (case side4 => exact (Kd.R_reads' HO106.out).2.1); rintro e w25 ⟨rfl, hb⟩; refine ⟨_, rfl, ?_⟩; have n0_ := Aside0.mk (Kd.R_below (by (with_reducible repeat (first | apply Kd.R_alloc | apply Kd.R_drewN | apply Kd.R_drew)); exact HO103.out) hb); have n1_ := Aside0.mk (Kd.R_below (by (with_reducible repeat (first | apply Kd.R_alloc | apply Kd.R_drewN | apply Kd.R_drew)); exact HO106.out) hb); have n2_ := Aside0.mk (Kd.R_below (by (with_reducible repeat (first | apply Kd.R_alloc | apply Kd.R_drewN | apply Kd.R_drew)); exact HO109.out) hb); have n3_ := Aside0.mk (Kd.R_below (by (with_reducible repeat (first | apply Kd.R_alloc | apply Kd.R_drewN | apply Kd.R_drew)); exact HO112.out) hb); have n4_ := Aside0.mk (blk_below (g := gb113) (o := .cells #[.slice Ao15 t101.length co15, .slice Ao18 t104.length co18] 24 (0, 0)) (by (with_reducible repeat (first | refine blk_drewN ?_ _ | refine blk_drew ?_ | refine blk_alloc ?_ _)); exact BK113.out) hb); have n5_ := Aside0.mk (blk_below (g := gb114) (o := .cells #[.slice Ao19 t107.length co19, .slice Ao21 t110.length co21] 25 (0, 0)) (by (with_reducible repeat (first | refine blk_drewN ?_ _ | refine blk_drew ?_ | refine blk_alloc ?_ _)); exact BK114.out) hb); have n6_ := Aside0.mk (below_step (by repeat (first | (with_reducible first | exact HB.out | apply below_alloc | apply pw_below_drewN | apply below_drew1 | refine below_set ?_ GE113.out | refine below_set ?_ GE114.out) | exact HB.out)) hb); clear HO103; clear HO106; clear HO109; clear HO112; clear BK113; clear BK114; clear HB; have HO103 := n0_; have HO106 := n1_; have HO109 := n2_; have HO112 := n3_; have BK113 := n4_; have BK114 := n5_; have HB := n6_; clear n0_ n1_ n2_ n3_ n4_ n5_ n6_; (try clear hb); (try clear hb2); (try clear hk); (try clear hi)))
 (try simp only [Act.put, List.setIfInBounds_toArray, List.set_cons_zero, List.set_cons_succ])
 go_cut [60] (fun v60 wc => ∃ (kq : Nat) (x60_10 : Bool), v60 = .bool x60_10 ∧ Aside0 (imprimaturlaw07_EnterSelf.j0 kq t117 l4 t115 t118 x60_10 t101 t104 t107 t110 = some r) ∧ Aside0 (kq ≤ k) ∧ Aside0 (Kd.R (Kd.int .i64) 3 wc w.heap.size (fun k_ => some k_ ≠ ((.slice Ao18 t104.length co18) : Value).ownBlock ∧ some k_ ≠ ((.slice Ao19 t107.length co19) : Value).ownBlock ∧ some k_ ≠ ((.slice Ao21 t110.length co21) : Value).ownBlock) (.slice Ao15 t101.length co15) t101) ∧ Aside0 (Kd.R (Kd.int .i64) 3 wc w.heap.size (fun k_ => some k_ ≠ ((.slice Ao15 t101.length co15) : Value).ownBlock ∧ some k_ ≠ ((.slice Ao19 t107.length co19) : Value).ownBlock ∧ some k_ ≠ ((.slice Ao21 t110.length co21) : Value).ownBlock) (.slice Ao18 t104.length co18) t104) ∧ Aside0 (Kd.R (Kd.int .i64) 3 wc w.heap.size (fun k_ => some k_ ≠ ((.slice Ao15 t101.length co15) : Value).ownBlock ∧ some k_ ≠ ((.slice Ao18 t104.length co18) : Value).ownBlock ∧ some k_ ≠ ((.slice Ao21 t110.length co21) : Value).ownBlock) (.slice Ao19 t107.length co19) t107) ∧ Aside0 (Kd.R (Kd.int .i64) 3 wc w.heap.size (fun k_ => some k_ ≠ ((.slice Ao15 t101.length co15) : Value).ownBlock ∧ some k_ ≠ ((.slice Ao18 t104.length co18) : Value).ownBlock ∧ some k_ ≠ ((.slice Ao19 t107.length co19) : Value).ownBlock) (.slice Ao21 t110.length co21) t110) ∧ Aside0 (wc.heap[gb113]? = some (.cells #[(.slice Ao15 t101.length co15), (.slice Ao18 t104.length co18)] 24 (0, 0))) ∧ Aside0 (wc.heap[gb114]? = some (.cells #[(.slice Ao19 t107.length co19), (.slice Ao21 t110.length co21)] 25 (0, 0))) ∧ Aside0 (Below w.heap.size w wc))
 case first =>
  have H := HC11.out
  clear HC11
  by_cases c26 : 0 ≤ t117
  ·rw [if_pos c26] at H
   have c26b0 : decide (0 ≤ t117) = true := decide_eq_true c26
   clear c26
   (first | rw [c26b0] | (simp only [i64_w, i32_w]; rw [c26b0]) | skip)
   by_cases c27 : t117 < (t101.length : Int)
   ·rw [if_pos c27] at H
    have c27b0 : decide (t117 < (t101.length : Int)) = true := decide_eq_true c27
    clear c27
    by_cases c28 : (rd t101 t117) < 3
    ·rw [if_pos c28] at H
     have c28b0 : decide ((rd t101 t117) < 3) = true := decide_eq_true c28
     clear c28
     replace H := Option.bind_eq_some_iff.mp H
     obtain ⟨t120, A290, H⟩ := H
     replace H : ((enter_Enter.f t101 t104 t118 t117 t120).bind fun t123 => ((enter_Enter.f t101 t104 t118 t117 ([] : List Int)).bind fun t126 => ((imprimaturkeep_Same_int.f k t123 t126).bind fun t129 => (imprimaturlaw07_EnterSelf.j0 k t117 l4 t115 t118 (!t129) t101 t104 t107 t110)))) = some r := H
     have A29 := Aside0.mk A290
     clear A290
     replace H := Option.bind_eq_some_iff.mp H
     obtain ⟨t123, A300, H⟩ := H
     replace H : ((enter_Enter.f t101 t104 t118 t117 ([] : List Int)).bind fun t126 => ((imprimaturkeep_Same_int.f k t123 t126).bind fun t129 => (imprimaturlaw07_EnterSelf.j0 k t117 l4 t115 t118 (!t129) t101 t104 t107 t110))) = some r := H
     have A30 := Aside0.mk A300
     clear A300
     replace H := Option.bind_eq_some_iff.mp H
     obtain ⟨t126, A310, H⟩ := H
     replace H : ((imprimaturkeep_Same_int.f k t123 t126).bind fun t129 => (imprimaturlaw07_EnterSelf.j0 k t117 l4 t115 t118 (!t129) t101 t104 t107 t110)) = some r := H
     have A31 := Aside0.mk A310
     clear A310
     replace H := Option.bind_eq_some_iff.mp H
     obtain ⟨t129, A320, H⟩ := H
     replace H : (imprimaturlaw07_EnterSelf.j0 k t117 l4 t115 t118 (!t129) t101 t104 t107 t110) = some r := H
     have A32 := Aside0.mk A320
     clear A320
     have H' := Aside0.mk H
     clear H
     try go_wp2
     have n0_ := Aside0.mk (Kd.R_drew HO103.out)
     have n1_ := Aside0.mk (Kd.R_drew HO106.out)
     have n2_ := Aside0.mk (Kd.R_drew HO109.out)
     have n3_ := Aside0.mk (Kd.R_drew HO112.out)
     have n4_ := Aside0.mk (blk_drew BK113.out)
     have n5_ := Aside0.mk (blk_drew BK114.out)
     have n6_ := Aside0.mk (below_drew1 HB.out)
     clear HO103
     clear HO106
     clear HO109
     clear HO112
     clear BK113
     clear BK114
     clear HB
     have HO103 := n0_
     have HO106 := n1_
     have HO109 := n2_
     have HO112 := n3_
     have BK113 := n4_
     have BK114 := n5_
     have HB := n6_
     clear n0_ n1_ n2_ n3_ n4_ n5_ n6_
     have p119 : 0 ≤ (t117 : Int) := of_decide_eq_true (by first | (with_reducible assumption) | assumption)
     have q119 : t117 < (t101.length : Int) := of_decide_eq_true (by first | (with_reducible assumption) | assumption)
     obtain ⟨ad119, e119, hx119_0⟩ := Kd.at_int (Kd.R_reads' HO103.out).2.2 t117 p119 q119
     cases e119
     replace p119 := eq_true p119
     replace q119 := eq_true q119
     refine start_ (n := 21) (S := fun w' => w'.cell? ⟨gb113, 0, none⟩ = some (.slice (some ad119) t101.length co15) ∧ w'.cell? ⟨gb113, 1, none⟩ = some (.slice Ao18 t104.length co18) ∧ w'.cell? ⟨gb114, 0, none⟩ = some (.slice Ao19 t107.length co19) ∧ w'.cell? ⟨gb114, 1, none⟩ = some (.slice Ao21 t110.length co21) ∧ w'.cell? (ad119.add (t117).toNat) = some (.int .i64 (rd t101 t117))) (ds := []) #[false, false, false, false, false, false, false, false, false, false, false, false, false, false, false, false, false, false, false, false, false] (by kernel_rfl) rfl rfl ⟨(blk_cell BK113.out 0).trans rfl, (blk_cell BK113.out 1).trans rfl, (blk_cell BK114.out 0).trans rfl, (blk_cell BK114.out 1).trans rfl, hx119_0⟩ (fun hHeld => ?_); refine with_tabW imprimaturlaw07_EnterSelf.tab5 imprimaturlaw07_EnterSelf.bits5 (fun HT_ HW_ => ?_)
     generalize w25.drew = w33 at HO103 HO106 HO109 HO112 BK113 BK114 HB hx119_0 hHeld ⊢
     refine pure_ (i := 0) (N := some 40) (v := ?_) (a' := ?_) #[true, false, false, false, false, false, false, false, false, false, false, false, false, false, false, false, false, false, false, false, false] rfl rfl (any_of HT_.out (by kernel_rfl)) (fun _ _ _ h => h) (Or.inl ⟨by rfl, ?_⟩) ?_ ?_
     rotate_left
     ·intro w'
      go_simp
      with_reducible rfl
     rotate_left
     ·simp only [Act.put, List.setIfInBounds_toArray, List.set_cons_zero, List.set_cons_succ, i64_w, i32_w]
      rfl
     refine pure_ (i := 2) (N := some 42) (v := ?_) (a' := ?_) #[true, false, true, false, false, false, false, false, false, false, false, false, false, false, false, false, false, false, false, false, false] rfl rfl (any_of HT_.out (by kernel_rfl)) (fun _ _ _ h => h) (Or.inl ⟨by rfl, ?_⟩) ?_ ?_
     rotate_left
     ·intro w'
      go_simp
      with_reducible rfl
     rotate_left
     ·simp only [Act.put, List.setIfInBounds_toArray, List.set_cons_zero, List.set_cons_succ, i64_w, i32_w]
      rfl
     refine take_ (i := 1) (N := some 41) (v := ?_) (a' := ?_) #[true, true, true, false, false, false, false, false, false, false, false, false, false, false, false, false, false, false, false, false, false] rfl rfl (take_ofW HT_.out HW_.out (by kernel_rfl)) (fun _ _ _ h => h) (Or.inl ⟨by rfl, ?_⟩) hHeld ?_ ?_
     rotate_left
     ·rintro w' ⟨s0, s1, s2, s3, s4⟩
      go_simp
      with_reducible rfl
     rotate_left
     ·simp only [Act.put, List.setIfInBounds_toArray, List.set_cons_zero, List.set_cons_succ, i64_w, i32_w]
      rfl
     refine pure_ (i := 3) (N := some 43) (v := ?_) (a' := ?_) #[true, true, true, true, false, false, false, false, false, false, false, false, false, false, false, false, false, false, false, false, false] rfl rfl (any_of HT_.out (by kernel_rfl)) (fun _ _ _ h => h) (Or.inl ⟨by rfl, ?_⟩) ?_ ?_
     rotate_left
     ·intro w'
      go_simp
      with_reducible rfl
     rotate_left
     ·simp only [Act.put, List.setIfInBounds_toArray, List.set_cons_zero, List.set_cons_succ, i64_w, i32_w]
      rfl
     refine take_ (i := 4) (N := some 44) (v := ?_) (a' := ?_) #[true, true, true, true, true, false, false, false, false, false, false, false, false, false, false, false, false, false, false, false, false] rfl rfl (take_ofW HT_.out HW_.out (by kernel_rfl)) (fun _ _ _ h => h) (Or.inl ⟨by rfl, ?_⟩) hHeld ?_ ?_
     rotate_left
     ·rintro w' ⟨s0, s1, s2, s3, s4⟩
      go_simp
      with_reducible rfl
     rotate_left
     ·simp only [Act.put, List.setIfInBounds_toArray, List.set_cons_zero, List.set_cons_succ, i64_w, i32_w]
      rfl
     refine pure_ (i := 5) (N := some 45) (v := ?_) (a' := ?_) #[true, true, true, true, true, true, false, false, false, false, false, false, false, false, false, false, false, false, false, false, false] rfl rfl (any_of HT_.out (by kernel_rfl)) (fun _ _ _ h => h) (Or.inl ⟨by rfl, ?_⟩) ?_ ?_
     rotate_left
     ·intro w'
      go_simp
      with_reducible rfl
     rotate_left
     ·simp only [Act.put, List.setIfInBounds_toArray, List.set_cons_zero, List.set_cons_succ, i64_w, i32_w]
      rfl
     refine pure_ (i := 6) (N := some 46) (v := ?_) (a' := ?_) #[true, true, true, true, true, true, true, false, false, false, false, false, false, false, false, false, false, false, false, false, false] rfl rfl (any_of HT_.out (by kernel_rfl)) (fun _ _ _ h => h) (Or.inl ⟨by rfl, ?_⟩) ?_ ?_
     rotate_left
     ·intro w'
      go_simp
      with_reducible rfl
     rotate_left
     ·simp only [Act.put, List.setIfInBounds_toArray, List.set_cons_zero, List.set_cons_succ, i64_w, i32_w]
      rfl
     refine pure_ (i := 8) (N := some 48) (v := ?_) (a' := ?_) #[true, true, true, true, true, true, true, false, true, false, false, false, false, false, false, false, false, false, false, false, false] rfl rfl (any_of HT_.out (by kernel_rfl)) (fun _ _ _ h => h) (Or.inl ⟨by rfl, ?_⟩) ?_ ?_
     rotate_left
     ·intro w'
      go_simp
      with_reducible rfl
     rotate_left
     ·simp only [Act.put, List.setIfInBounds_toArray, List.set_cons_zero, List.set_cons_succ, i64_w, i32_w]
      rfl
     refine pure_ (i := 9) (N := some 49) (v := ?_) (a' := ?_) #[true, true, true, true, true, true, true, false, true, true, false, false, false, false, false, false, false, false, false, false, false] rfl rfl (any_of HT_.out (by kernel_rfl)) (fun _ _ _ h => h) (Or.inl ⟨by rfl, ?_⟩) ?_ ?_
     rotate_left
     ·intro w'
      go_simp
      with_reducible rfl
     rotate_left
     ·simp only [Act.put, List.setIfInBounds_toArray, List.set_cons_zero, List.set_cons_succ, i64_w, i32_w]
      rfl
     refine pure_ (i := 11) (N := some 51) (v := ?_) (a' := ?_) #[true, true, true, true, true, true, true, false, true, true, false, true, false, false, false, false, false, false, false, false, false] rfl rfl (any_of HT_.out (by kernel_rfl)) (fun _ _ _ h => h) (Or.inl ⟨by rfl, ?_⟩) ?_ ?_
     rotate_left
     ·intro w'
      go_simp
      with_reducible rfl
     rotate_left
     ·simp only [Act.put, List.setIfInBounds_toArray, List.set_cons_zero, List.set_cons_succ, i64_w, i32_w]
      rfl
     refine pure_ (i := 15) (N := some 55) (v := ?_) (a' := ?_) #[true, true, true, true, true, true, true, false, true, true, false, true, false, false, false, true, false, false, false, false, false] rfl rfl (any_of HT_.out (by kernel_rfl)) (fun _ _ _ h => h) (Or.inl ⟨by rfl, ?_⟩) ?_ ?_
     rotate_left
     ·intro w'
      go_simp
      with_reducible rfl
     rotate_left
     ·simp only [Act.put, List.setIfInBounds_toArray, List.set_cons_zero, List.set_cons_succ, i64_w, i32_w]
      rfl
     refine pure_ (i := 16) (N := some 56) (v := ?_) (a' := ?_) #[true, true, true, true, true, true, true, false, true, true, false, true, false, false, false, true, true, false, false, false, false] rfl rfl (any_of HT_.out (by kernel_rfl)) (fun _ _ _ h => h) (Or.inl ⟨by rfl, ?_⟩) ?_ ?_
     rotate_left
     ·intro w'
      go_simp
      with_reducible rfl
     rotate_left
     ·simp only [Act.put, List.setIfInBounds_toArray, List.set_cons_zero, List.set_cons_succ, i64_w, i32_w]
      rfl
     refine take_ (i := 7) (N := some 47) (v := ?_) (a' := ?_) #[true, true, true, true, true, true, true, true, true, true, false, true, false, false, false, true, true, false, false, false, false] rfl rfl (take_ofW HT_.out HW_.out (by kernel_rfl)) (fun _ _ _ h => h) (Or.inl ⟨by rfl, ?_⟩) hHeld ?_ ?_
     rotate_left
     ·rintro w' ⟨s0, s1, s2, s3, s4⟩
      go_simp
      with_reducible rfl
     rotate_left
     ·simp only [Act.put, List.setIfInBounds_toArray, List.set_cons_zero, List.set_cons_succ, i64_w, i32_w]
      rfl
     refine take_ (i := 10) (N := some 50) (v := ?_) (a' := ?_) #[true, true, true, true, true, true, true, true, true, true, true, true, false, false, false, true, true, false, false, false, false] rfl rfl (take_ofW HT_.out HW_.out (by kernel_rfl)) (fun _ _ _ h => h) (Or.inl ⟨by rfl, ?_⟩) hHeld ?_ ?_
     rotate_left
     ·rintro w' ⟨s0, s1, s2, s3, s4⟩
      go_simp
      with_reducible rfl
     rotate_left
     ·simp only [Act.put, List.setIfInBounds_toArray, List.set_cons_zero, List.set_cons_succ, i64_w, i32_w]
      rfl
     refine take_ (i := 14) (N := some 54) (v := ?_) (a' := ?_) #[true, true, true, true, true, true, true, true, true, true, true, true, false, false, true, true, true, false, false, false, false] rfl rfl (take_ofW HT_.out HW_.out (by kernel_rfl)) (fun _ _ _ h => h) (Or.inl ⟨by rfl, ?_⟩) hHeld ?_ ?_
     rotate_left
     ·rintro w' ⟨s0, s1, s2, s3, s4⟩
      go_simp
      with_reducible rfl
     rotate_left
     ·simp only [Act.put, List.setIfInBounds_toArray, List.set_cons_zero, List.set_cons_succ, i64_w, i32_w]
      rfl
     refine one_ (i := 12) (N := some 52) #[true, true, true, true, true, true, true, true, true, true, true, true, true, false, true, true, true, false, false, false, false] rfl rfl (one_of HT_.out (by kernel_rfl)) (by decide) (fun K hK => ?_)
     refine goes_ Try.func22 (by kernel_rfl) rfl #[.agg #[.slice Ao19 t107.length co19, .slice Ao21 t110.length co21], .slice A4 l4.length c4] (by rfl) rfl rfl (by (try simp only [List.map_toArray, List.map_cons, List.map_nil]); first | done | rfl | (simp only [List.length_drop, List.length_take]; rfl)) ?_
     with_reducible refine (imprimaturlaw07_Past.calls k _ _ t107 _ _ t110 _ _ l4 t120 _ ?side1 ?side2 ?side3 ?side4 ?side5 ?side6 A29.out).mono ?_
     (case side1 => repeat (first | exact (Kd.R_reads' HO109.out).2.2 | (with_reducible refine Kd.C_alloc ?_ _) | (with_reducible refine Kd.C_drewN ?_ _) | (with_reducible refine Kd.C_drew ?_)))
     (case side2 => exact (Kd.R_reads' HO109.out).2.1)
     (case side3 => repeat (first | exact (Kd.R_reads' HO112.out).2.2 | (with_reducible refine Kd.C_alloc ?_ _) | (with_reducible refine Kd.C_drewN ?_ _) | (with_reducible refine Kd.C_drew ?_)))
     (case side4 => exact (Kd.R_reads' HO112.out).2.1)
     (case side5 => repeat (first | exact (Kd.C_below HR4.out HB.out) | (with_reducible refine Kd.C_alloc ?_ _) | (with_reducible refine Kd.C_drewN ?_ _) | (with_reducible refine Kd.C_drew ?_)))
     (case side6 => exact HC4.out)
     rintro e w34 ⟨v121, rfl, ho0, hb⟩
     have HS4_ := (hb.cell (World.block_lt_of_cell? _ _ (hHeld.2.2.2.2))).trans (hHeld.2.2.2.2)
     refine ⟨_, rfl, ?_⟩
     have n0_ := Aside0.mk (Kd.R_below (by (with_reducible repeat (first | apply Kd.R_alloc | apply Kd.R_drewN | apply Kd.R_drew)); exact HO103.out) hb)
     have n1_ := Aside0.mk (Kd.R_below (by (with_reducible repeat (first | apply Kd.R_alloc | apply Kd.R_drewN | apply Kd.R_drew)); exact HO106.out) hb)
     have n2_ := Aside0.mk (Kd.R_below (by (with_reducible repeat (first | apply Kd.R_alloc | apply Kd.R_drewN | apply Kd.R_drew)); exact HO109.out) hb)
     have n3_ := Aside0.mk (Kd.R_below (by (with_reducible repeat (first | apply Kd.R_alloc | apply Kd.R_drewN | apply Kd.R_drew)); exact HO112.out) hb)
     have n4_ := Aside0.mk (Kd.R_lower ho0 (below_size (by repeat (first | (with_reducible first | exact HB.out | apply below_alloc | apply pw_below_drewN | apply below_drew1 | refine below_set ?_ GE113.out | refine below_set ?_ GE114.out) | exact HB.out))))
     have n5_ := Aside0.mk (blk_below (g := gb113) (o := .cells #[.slice (some ad119) t101.length co15, .slice Ao18 t104.length co18] 24 (0, 0)) (by (with_reducible repeat (first | refine blk_drewN ?_ _ | refine blk_drew ?_ | refine blk_alloc ?_ _)); exact BK113.out) hb)
     have n6_ := Aside0.mk (blk_below (g := gb114) (o := .cells #[.slice Ao19 t107.length co19, .slice Ao21 t110.length co21] 25 (0, 0)) (by (with_reducible repeat (first | refine blk_drewN ?_ _ | refine blk_drew ?_ | refine blk_alloc ?_ _)); exact BK114.out) hb)
     have n7_ := Aside0.mk (below_step (by repeat (first | (with_reducible first | exact HB.out | apply below_alloc | apply pw_below_drewN | apply below_drew1 | refine below_set ?_ GE113.out | refine below_set ?_ GE114.out) | exact HB.out)) hb)
     clear HO103
     clear HO106
     clear HO109
     clear HO112
     clear BK113
     clear BK114
     clear HB
     have HO103 := n0_
     have HO106 := n1_
     have HO109 := n2_
     have HO112 := n3_
     have HO122 := n4_
     have BK113 := n5_
     have BK114 := n6_
     have HB := n7_
     clear n0_ n1_ n2_ n3_ n4_ n5_ n6_ n7_
     (try clear hb)
     (try clear hb2)
     (try clear hk)
     (try clear hi)
     (try clear ho0)
     obtain ⟨Ao35, co35, eo35⟩ := Kd.R_slice HO122.out
     (first | subst eo35 | (injection eo35 with f1_ f2_ f3_; have f4_ := f1_.symm; have f5_ := f3_.symm; clear f1_ f2_ f3_; subst f4_; subst f5_))
     refine hK.out _ _ ⟨(blk_cell BK113.out 0).trans rfl, (blk_cell BK113.out 1).trans rfl, (blk_cell BK114.out 0).trans rfl, (blk_cell BK114.out 1).trans rfl, HS4_⟩ (fun hHeld => ?_)
     clear hK K
     refine norm_ (a' := ?_) ?_ ?_
     rotate_left
     ·show Act.put _ (some 52) _ = _
      simp only [Act.put, List.setIfInBounds_toArray, List.set_cons_zero, List.set_cons_succ, i64_w, i32_w]
      rfl
     refine one_ (i := 13) (N := some 53) #[true, true, true, true, true, true, true, true, true, true, true, true, true, true, true, true, true, false, false, false, false] rfl rfl (one_of HT_.out (by kernel_rfl)) (by decide) (fun K hK => ?_)
     refine goes_ Try.func33 (by kernel_rfl) rfl #[.agg #[.slice (some ad119) t101.length co15, .slice Ao18 t104.length co18], .int .i64 t118, .int .i64 t117, .slice Ao35 t120.length co35] (by rfl) rfl rfl (by (try simp only [List.map_toArray, List.map_cons, List.map_nil]); first | done | rfl | (simp only [List.length_drop, List.length_take]; rfl)) ?_
     with_reducible refine (enter_Enter.calls _ _ t101 _ _ t104 t118 t117 _ _ t120 t123 _ ?side1 ?side2 ?side3 ?side4 ?side5 ?side6 A30.out).mono ?_
     (case side1 => repeat (first | exact (Kd.R_reads' HO103.out).2.2 | (with_reducible refine Kd.C_alloc ?_ _) | (with_reducible refine Kd.C_drewN ?_ _) | (with_reducible refine Kd.C_drew ?_)))
     (case side2 => exact (Kd.R_reads' HO103.out).2.1)
     (case side3 => repeat (first | exact (Kd.R_reads' HO106.out).2.2 | (with_reducible refine Kd.C_alloc ?_ _) | (with_reducible refine Kd.C_drewN ?_ _) | (with_reducible refine Kd.C_drew ?_)))
     (case side4 => exact (Kd.R_reads' HO106.out).2.1)
     (case side5 => repeat (first | exact (Kd.R_reads' HO122.out).2.2 | (with_reducible refine Kd.C_alloc ?_ _) | (with_reducible refine Kd.C_drewN ?_ _) | (with_reducible refine Kd.C_drew ?_)))
     (case side6 => exact (Kd.R_reads' HO122.out).2.1)
     rintro e w36 ⟨v124, rfl, ho0, hb⟩
     have HS4_ := (hb.cell (World.block_lt_of_cell? _ _ (hHeld.2.2.2.2))).trans (hHeld.2.2.2.2)
     refine ⟨_, rfl, ?_⟩
     have n0_ := Aside0.mk (Kd.R_elder' (by (with_reducible repeat (first | apply Kd.R_alloc | apply Kd.R_drewN | apply Kd.R_drew)); exact HO103.out) (Kd.R_base ho0) hb)
     have n1_ := Aside0.mk (Kd.R_elder' (by (with_reducible repeat (first | apply Kd.R_alloc | apply Kd.R_drewN | apply Kd.R_drew)); exact HO106.out) (Kd.R_base ho0) hb)
     have n2_ := Aside0.mk (Kd.R_elder' (by (with_reducible repeat (first | apply Kd.R_alloc | apply Kd.R_drewN | apply Kd.R_drew)); exact HO109.out) (Kd.R_base ho0) hb)
     have n3_ := Aside0.mk (Kd.R_elder' (by (with_reducible repeat (first | apply Kd.R_alloc | apply Kd.R_drewN | apply Kd.R_drew)); exact HO112.out) (Kd.R_base ho0) hb)
     have n4_ := Aside0.mk (Kd.R_below (by (with_reducible repeat (first | apply Kd.R_alloc | apply Kd.R_drewN | apply Kd.R_drew)); exact HO122.out) hb)
     have n5_ := Aside0.mk (Kd.R_lower (Kd.R_new' (Kd.R_new' (Kd.R_new' (Kd.R_new' ho0 (Kd.R_lt (by (with_reducible repeat (first | apply Kd.R_alloc | apply Kd.R_drewN | apply Kd.R_drew)); exact HO103.out))) (Kd.R_lt (by (with_reducible repeat (first | apply Kd.R_alloc | apply Kd.R_drewN | apply Kd.R_drew)); exact HO106.out))) (Kd.R_lt (by (with_reducible repeat (first | apply Kd.R_alloc | apply Kd.R_drewN | apply Kd.R_drew)); exact HO109.out))) (Kd.R_lt (by (with_reducible repeat (first | apply Kd.R_alloc | apply Kd.R_drewN | apply Kd.R_drew)); exact HO112.out))) (below_size (by repeat (first | (with_reducible first | exact HB.out | apply below_alloc | apply pw_below_drewN | apply below_drew1 | refine below_set ?_ GE113.out | refine below_set ?_ GE114.out) | exact HB.out))))
     have n6_ := Aside0.mk (blk_below (g := gb113) (o := .cells #[.slice (some ad119) t101.length co15, .slice Ao18 t104.length co18] 24 (0, 0)) (by (with_reducible repeat (first | refine blk_drewN ?_ _ | refine blk_drew ?_ | refine blk_alloc ?_ _)); exact BK113.out) hb)
     have n7_ := Aside0.mk (blk_below (g := gb114) (o := .cells #[.slice Ao19 t107.length co19, .slice Ao21 t110.length co21] 25 (0, 0)) (by (with_reducible repeat (first | refine blk_drewN ?_ _ | refine blk_drew ?_ | refine blk_alloc ?_ _)); exact BK114.out) hb)
     have n8_ := Aside0.mk (below_step (by repeat (first | (with_reducible first | exact HB.out | apply below_alloc | apply pw_below_drewN | apply below_drew1 | refine below_set ?_ GE113.out | refine below_set ?_ GE114.out) | exact HB.out)) hb)
     clear HO103
     clear HO106
     clear HO109
     clear HO112
     clear HO122
     clear BK113
     clear BK114
     clear HB
     have HO103 := n0_
     have HO106 := n1_
     have HO109 := n2_
     have HO112 := n3_
     have HO122 := n4_
     have HO125 := n5_
     have BK113 := n6_
     have BK114 := n7_
     have HB := n8_
     clear n0_ n1_ n2_ n3_ n4_ n5_ n6_ n7_ n8_
     (try clear hb)
     (try clear hb2)
     (try clear hk)
     (try clear hi)
     (try clear ho0)
     refine hK.out _ _ ⟨(blk_cell BK113.out 0).trans rfl, (blk_cell BK113.out 1).trans rfl, (blk_cell BK114.out 0).trans rfl, (blk_cell BK114.out 1).trans rfl, HS4_⟩ (fun hHeld => ?_)
     clear hK K
     refine norm_ (a' := ?_) ?_ ?_
     rotate_left
     ·show Act.put _ (some 53) _ = _
      simp only [Act.put, List.setIfInBounds_toArray, List.set_cons_zero, List.set_cons_succ, i64_w, i32_w]
      rfl
     refine one_ (i := 17) (N := some 57) #[true, true, true, true, true, true, true, true, true, true, true, true, true, true, true, true, true, true, false, false, false] rfl rfl (one_of HT_.out (by kernel_rfl)) (by decide) (fun K hK => ?_)
     refine goes_ Try.func33 (by kernel_rfl) rfl #[.agg #[.slice (some ad119) t101.length co15, .slice Ao18 t104.length co18], .int .i64 t118, .int .i64 t117, .slice none 0 0] (by rfl) rfl rfl (by (try simp only [List.map_toArray, List.map_cons, List.map_nil]); first | done | rfl | (simp only [List.length_drop, List.length_take]; rfl)) ?_
     refine (enter_Enter.calls _ _ t101 _ _ t104 t118 t117 _ _ ([] : List Int) t126 _ ?side1 ?side2 ?side3 ?side4 ?side5 ?side6 A31.out).mono ?_
     (case side1 => repeat (first | exact (Kd.R_reads' HO103.out).2.2 | (with_reducible refine Kd.C_alloc ?_ _) | (with_reducible refine Kd.C_drewN ?_ _) | (with_reducible refine Kd.C_drew ?_)))
     (case side2 => exact (Kd.R_reads' HO103.out).2.1)
     (case side3 => repeat (first | exact (Kd.R_reads' HO106.out).2.2 | (with_reducible refine Kd.C_alloc ?_ _) | (with_reducible refine Kd.C_drewN ?_ _) | (with_reducible refine Kd.C_drew ?_)))
     (case side4 => exact (Kd.R_reads' HO106.out).2.1)
     (case side5 => exact Kd.C_nil _ _)
     (case side6 => exact Nat.le_refl _)
     rintro e w37 ⟨v127, rfl, ho0, hb⟩
     have HS4_ := (hb.cell (World.block_lt_of_cell? _ _ (hHeld.2.2.2.2))).trans (hHeld.2.2.2.2)
     refine ⟨_, rfl, ?_⟩
     have n0_ := Aside0.mk (Kd.R_elder' (by (with_reducible repeat (first | apply Kd.R_alloc | apply Kd.R_drewN | apply Kd.R_drew)); exact HO103.out) (Kd.R_base ho0) hb)
     have n1_ := Aside0.mk (Kd.R_elder' (by (with_reducible repeat (first | apply Kd.R_alloc | apply Kd.R_drewN | apply Kd.R_drew)); exact HO106.out) (Kd.R_base ho0) hb)
     have n2_ := Aside0.mk (Kd.R_elder' (by (with_reducible repeat (first | apply Kd.R_alloc | apply Kd.R_drewN | apply Kd.R_drew)); exact HO109.out) (Kd.R_base ho0) hb)
     have n3_ := Aside0.mk (Kd.R_elder' (by (with_reducible repeat (first | apply Kd.R_alloc | apply Kd.R_drewN | apply Kd.R_drew)); exact HO112.out) (Kd.R_base ho0) hb)
     have n4_ := Aside0.mk (Kd.R_below (by (with_reducible repeat (first | apply Kd.R_alloc | apply Kd.R_drewN | apply Kd.R_drew)); exact HO122.out) hb)
     have n5_ := Aside0.mk (Kd.R_elder' (by (with_reducible repeat (first | apply Kd.R_alloc | apply Kd.R_drewN | apply Kd.R_drew)); exact HO125.out) (Kd.R_base ho0) hb)
     have n6_ := Aside0.mk (Kd.R_lower (Kd.R_new' (Kd.R_new' (Kd.R_new' (Kd.R_new' (Kd.R_new' ho0 (Kd.R_lt (by (with_reducible repeat (first | apply Kd.R_alloc | apply Kd.R_drewN | apply Kd.R_drew)); exact HO103.out))) (Kd.R_lt (by (with_reducible repeat (first | apply Kd.R_alloc | apply Kd.R_drewN | apply Kd.R_drew)); exact HO106.out))) (Kd.R_lt (by (with_reducible repeat (first | apply Kd.R_alloc | apply Kd.R_drewN | apply Kd.R_drew)); exact HO109.out))) (Kd.R_lt (by (with_reducible repeat (first | apply Kd.R_alloc | apply Kd.R_drewN | apply Kd.R_drew)); exact HO112.out))) (Kd.R_lt (by (with_reducible repeat (first | apply Kd.R_alloc | apply Kd.R_drewN | apply Kd.R_drew)); exact HO125.out))) (below_size (by repeat (first | (with_reducible first | exact HB.out | apply below_alloc | apply pw_below_drewN | apply below_drew1 | refine below_set ?_ GE113.out | refine below_set ?_ GE114.out) | exact HB.out))))
     have n7_ := Aside0.mk (blk_below (g := gb113) (o := .cells #[.slice (some ad119) t101.length co15, .slice Ao18 t104.length co18] 24 (0, 0)) (by (with_reducible repeat (first | refine blk_drewN ?_ _ | refine blk_drew ?_ | refine blk_alloc ?_ _)); exact BK113.out) hb)
     have n8_ := Aside0.mk (blk_below (g := gb114) (o := .cells #[.slice Ao19 t107.length co19, .slice Ao21 t110.length co21] 25 (0, 0)) (by (with_reducible repeat (first | refine blk_drewN ?_ _ | refine blk_drew ?_ | refine blk_alloc ?_ _)); exact BK114.out) hb)
     have n9_ := Aside0.mk (below_step (by repeat (first | (with_reducible first | exact HB.out | apply below_alloc | apply pw_below_drewN | apply below_drew1 | refine below_set ?_ GE113.out | refine below_set ?_ GE114.out) | exact HB.out)) hb)
     clear HO103
     clear HO106
     clear HO109
     clear HO112
     clear HO122
     clear HO125
     clear BK113
     clear BK114
     clear HB
     have HO103 := n0_
     have HO106 := n1_
     have HO109 := n2_
     have HO112 := n3_
     have HO122 := n4_
     have HO125 := n5_
     have HO128 := n6_
     have BK113 := n7_
     have BK114 := n8_
     have HB := n9_
     clear n0_ n1_ n2_ n3_ n4_ n5_ n6_ n7_ n8_ n9_
     (try clear hb)
     (try clear hb2)
     (try clear hk)
     (try clear hi)
     (try clear ho0)
     obtain ⟨Ao38, co38, eo38⟩ := Kd.R_slice HO125.out
     (first | subst eo38 | (injection eo38 with f1_ f2_ f3_; have f4_ := f1_.symm; have f5_ := f3_.symm; clear f1_ f2_ f3_; subst f4_; subst f5_))
     obtain ⟨Ao39, co39, eo39⟩ := Kd.R_slice HO128.out
     (first | subst eo39 | (injection eo39 with f1_ f2_ f3_; have f4_ := f1_.symm; have f5_ := f3_.symm; clear f1_ f2_ f3_; subst f4_; subst f5_))
     refine hK.out _ _ ⟨(blk_cell BK113.out 0).trans rfl, (blk_cell BK113.out 1).trans rfl, (blk_cell BK114.out 0).trans rfl, (blk_cell BK114.out 1).trans rfl, HS4_⟩ (fun hHeld => ?_)
     clear hK K
     refine norm_ (a' := ?_) ?_ ?_
     rotate_left
     ·show Act.put _ (some 57) _ = _
      simp only [Act.put, List.setIfInBounds_toArray, List.set_cons_zero, List.set_cons_succ, i64_w, i32_w]
      rfl
     refine one_ (i := 18) (N := some 58) #[true, true, true, true, true, true, true, true, true, true, true, true, true, true, true, true, true, true, true, false, false] rfl rfl (one_of HT_.out (by kernel_rfl)) (by decide) (fun K hK => ?_)
     refine goes_ Try.func32 (by kernel_rfl) rfl #[.slice Ao38 t123.length co38, .slice Ao39 t126.length co39] (by rfl) rfl rfl (by (try simp only [List.map_toArray, List.map_cons, List.map_nil]); first | done | rfl | (simp only [List.length_drop, List.length_take]; rfl)) ?_
     with_reducible refine (imprimaturkeep_Same_int.calls k _ _ t123 _ _ t126 t129 _ ?side1 ?side2 ?side3 ?side4 A32.out).mono ?_
     (case side1 => repeat (first | exact (Kd.R_reads' HO125.out).2.2 | (with_reducible refine Kd.C_alloc ?_ _) | (with_reducible refine Kd.C_drewN ?_ _) | (with_reducible refine Kd.C_drew ?_)))
     (case side2 => exact (Kd.R_reads' HO125.out).2.1)
     (case side3 => repeat (first | exact (Kd.R_reads' HO128.out).2.2 | (with_reducible refine Kd.C_alloc ?_ _) | (with_reducible refine Kd.C_drewN ?_ _) | (with_reducible refine Kd.C_drew ?_)))
     (case side4 => exact (Kd.R_reads' HO128.out).2.1)
     rintro e w' ⟨rfl, ⟨nd, rfl⟩⟩
     refine ⟨_, rfl, ?_⟩
     refine hK.out _ _ ⟨(blk_cell BK113.out 0).trans rfl, (blk_cell BK113.out 1).trans rfl, (blk_cell BK114.out 0).trans rfl, (blk_cell BK114.out 1).trans rfl, hHeld.2.2.2.2⟩ (fun hHeld => ?_)
     clear hK K
     refine norm_ (a' := ?_) ?_ ?_
     rotate_left
     ·show Act.put _ (some 58) _ = _
      simp only [Act.put, List.setIfInBounds_toArray, List.set_cons_zero, List.set_cons_succ, i64_w, i32_w]
      rfl
     refine pure_ (i := 19) (N := some 59) (v := ?_) (a' := ?_) #[true, true, true, true, true, true, true, true, true, true, true, true, true, true, true, true, true, true, true, true, false] rfl rfl (any_of HT_.out (by kernel_rfl)) (fun _ _ _ h => h) (Or.inl ⟨by rfl, ?_⟩) ?_ ?_
     rotate_left
     ·intro w'
      go_simp
      with_reducible rfl
     rotate_left
     ·simp only [Act.put, List.setIfInBounds_toArray, List.set_cons_zero, List.set_cons_succ, i64_w, i32_w]
      rfl
     refine pure_ (i := 20) (N := some 60) (v := ?_) (a' := ?_) #[true, true, true, true, true, true, true, true, true, true, true, true, true, true, true, true, true, true, true, true, true] rfl rfl (any_of HT_.out (by kernel_rfl)) (fun _ _ _ h => h) (Or.inl ⟨by rfl, ?_⟩) ?_ ?_
     rotate_left
     ·intro w'
      go_simp
      with_reducible rfl
     rotate_left
     ·simp only [Act.put, List.setIfInBounds_toArray, List.set_cons_zero, List.set_cons_succ, i64_w, i32_w]
      rfl
     refine done_ (done_of HT_.out (by kernel_rfl)) ?_
     try go_wp2
     go_meet
     case rel => exact ⟨_, (!t129), (by first | rfl | (simp; done) | (simp [*]; done)), H', ⟨by first | omega | exact Nat.le_refl _⟩, ⟨by (with_reducible repeat (first | apply Kd.R_alloc | apply Kd.R_drewN | apply Kd.R_drew)); exact Kd.R_mono HO103.out (fun _ hk => ⟨hk.1.1.1, ⟨hk.1.1.2.1, hk.1.1.2.2⟩⟩)⟩, ⟨by (with_reducible repeat (first | apply Kd.R_alloc | apply Kd.R_drewN | apply Kd.R_drew)); exact Kd.R_mono HO106.out (fun _ hk => ⟨hk.1.1.1, ⟨hk.1.1.2.1, hk.1.1.2.2⟩⟩)⟩, ⟨by (with_reducible repeat (first | apply Kd.R_alloc | apply Kd.R_drewN | apply Kd.R_drew)); exact Kd.R_mono HO109.out (fun _ hk => ⟨hk.1.1.1, ⟨hk.1.1.2.1, hk.1.1.2.2⟩⟩)⟩, ⟨by (with_reducible repeat (first | apply Kd.R_alloc | apply Kd.R_drewN | apply Kd.R_drew)); exact Kd.R_mono HO112.out (fun _ hk => ⟨hk.1.1.1, ⟨hk.1.1.2.1, hk.1.1.2.2⟩⟩)⟩, ⟨by (with_reducible repeat (first | refine blk_drewN ?_ _ | refine blk_drew ?_ | refine blk_alloc ?_ _)); exact BK113.out⟩, ⟨by (with_reducible repeat (first | refine blk_drewN ?_ _ | refine blk_drew ?_ | refine blk_alloc ?_ _)); exact BK114.out⟩, ⟨by repeat (first | (with_reducible first | exact HB.out | apply below_alloc | apply pw_below_drewN | apply below_drew1 | refine below_set ?_ GE113.out | refine below_set ?_ GE114.out) | exact HB.out)⟩⟩
    ·rw [if_neg c28] at H
     have c28b0 : decide ((rd t101 t117) < 3) = false := decide_eq_false c28
     clear c28
     have H' := Aside0.mk H
     clear H
     try go_wp2
     have n0_ := Aside0.mk (Kd.R_drew HO103.out)
     have n1_ := Aside0.mk (Kd.R_drew HO106.out)
     have n2_ := Aside0.mk (Kd.R_drew HO109.out)
     have n3_ := Aside0.mk (Kd.R_drew HO112.out)
     have n4_ := Aside0.mk (blk_drew BK113.out)
     have n5_ := Aside0.mk (blk_drew BK114.out)
     have n6_ := Aside0.mk (below_drew1 HB.out)
     clear HO103
     clear HO106
     clear HO109
     clear HO112
     clear BK113
     clear BK114
     clear HB
     have HO103 := n0_
     have HO106 := n1_
     have HO109 := n2_
     have HO112 := n3_
     have BK113 := n4_
     have BK114 := n5_
     have HB := n6_
     clear n0_ n1_ n2_ n3_ n4_ n5_ n6_
     have p119 : 0 ≤ (t117 : Int) := of_decide_eq_true (by first | (with_reducible assumption) | assumption)
     have q119 : t117 < (t101.length : Int) := of_decide_eq_true (by first | (with_reducible assumption) | assumption)
     obtain ⟨ad119, e119, hx119_0⟩ := Kd.at_int (Kd.R_reads' HO103.out).2.2 t117 p119 q119
     cases e119
     replace p119 := eq_true p119
     replace q119 := eq_true q119
     refine start_ (n := 21) (S := fun w' => w'.cell? ⟨gb113, 0, none⟩ = some (.slice (some ad119) t101.length co15) ∧ w'.cell? ⟨gb113, 1, none⟩ = some (.slice Ao18 t104.length co18) ∧ w'.cell? (ad119.add (t117).toNat) = some (.int .i64 (rd t101 t117))) (ds := []) #[false, false, false, false, false, false, false, false, false, false, false, false, false, false, false, false, false, false, false, false, false] (by kernel_rfl) rfl rfl ⟨(blk_cell BK113.out 0).trans rfl, (blk_cell BK113.out 1).trans rfl, hx119_0⟩ (fun hHeld => ?_); refine with_tabW imprimaturlaw07_EnterSelf.tab5 imprimaturlaw07_EnterSelf.bits5 (fun HT_ HW_ => ?_)
     generalize w25.drew = w40 at HO103 HO106 HO109 HO112 BK113 BK114 HB hx119_0 hHeld ⊢
     refine pure_ (i := 0) (N := some 40) (v := ?_) (a' := ?_) #[true, false, false, false, false, false, false, false, false, false, false, false, false, false, false, false, false, false, false, false, false] rfl rfl (any_of HT_.out (by kernel_rfl)) (fun _ _ _ h => h) (Or.inl ⟨by rfl, ?_⟩) ?_ ?_
     rotate_left
     ·intro w'
      go_simp
      with_reducible rfl
     rotate_left
     ·simp only [Act.put, List.setIfInBounds_toArray, List.set_cons_zero, List.set_cons_succ, i64_w, i32_w]
      rfl
     refine pure_ (i := 2) (N := some 42) (v := ?_) (a' := ?_) #[true, false, true, false, false, false, false, false, false, false, false, false, false, false, false, false, false, false, false, false, false] rfl rfl (any_of HT_.out (by kernel_rfl)) (fun _ _ _ h => h) (Or.inl ⟨by rfl, ?_⟩) ?_ ?_
     rotate_left
     ·intro w'
      go_simp
      with_reducible rfl
     rotate_left
     ·simp only [Act.put, List.setIfInBounds_toArray, List.set_cons_zero, List.set_cons_succ, i64_w, i32_w]
      rfl
     refine take_ (i := 1) (N := some 41) (v := ?_) (a' := ?_) #[true, true, true, false, false, false, false, false, false, false, false, false, false, false, false, false, false, false, false, false, false] rfl rfl (take_ofW HT_.out HW_.out (by kernel_rfl)) (fun _ _ _ h => h) (Or.inl ⟨by rfl, ?_⟩) hHeld ?_ ?_
     rotate_left
     ·rintro w' ⟨s0, s1, s2⟩
      go_simp
      with_reducible rfl
     rotate_left
     ·simp only [Act.put, List.setIfInBounds_toArray, List.set_cons_zero, List.set_cons_succ, i64_w, i32_w]
      rfl
     refine pure_ (i := 3) (N := some 43) (v := ?_) (a' := ?_) #[true, true, true, true, false, false, false, false, false, false, false, false, false, false, false, false, false, false, false, false, false] rfl rfl (any_of HT_.out (by kernel_rfl)) (fun _ _ _ h => h) (Or.inl ⟨by rfl, ?_⟩) ?_ ?_
     rotate_left
     ·intro w'
      go_simp
      with_reducible rfl
     rotate_left
     ·simp only [Act.put, List.setIfInBounds_toArray, List.set_cons_zero, List.set_cons_succ, i64_w, i32_w]
      rfl
     refine take_ (i := 4) (N := some 44) (v := ?_) (a' := ?_) #[true, true, true, true, true, false, false, false, false, false, false, false, false, false, false, false, false, false, false, false, false] rfl rfl (take_ofW HT_.out HW_.out (by kernel_rfl)) (fun _ _ _ h => h) (Or.inl ⟨by rfl, ?_⟩) hHeld ?_ ?_
     rotate_left
     ·rintro w' ⟨s0, s1, s2⟩
      go_simp
      with_reducible rfl
     rotate_left
     ·simp only [Act.put, List.setIfInBounds_toArray, List.set_cons_zero, List.set_cons_succ, i64_w, i32_w]
      rfl
     refine pure_ (i := 5) (N := some 45) (v := ?_) (a' := ?_) #[true, true, true, true, true, true, false, false, false, false, false, false, false, false, false, false, false, false, false, false, false] rfl rfl (any_of HT_.out (by kernel_rfl)) (fun _ _ _ h => h) (Or.inl ⟨by rfl, ?_⟩) ?_ ?_
     rotate_left
     ·intro w'
      go_simp
      with_reducible rfl
     rotate_left
     ·simp only [Act.put, List.setIfInBounds_toArray, List.set_cons_zero, List.set_cons_succ, i64_w, i32_w]
      rfl
     refine pure_ (i := 6) (N := some 46) (v := ?_) (a' := ?_) #[true, true, true, true, true, true, true, false, false, false, false, false, false, false, false, false, false, false, false, false, false] rfl rfl (any_of HT_.out (by kernel_rfl)) (fun _ _ _ h => h) (Or.inl ⟨by rfl, ?_⟩) ?_ ?_
     rotate_left
     ·intro w'
      go_simp
      with_reducible rfl
     rotate_left
     ·simp only [Act.put, List.setIfInBounds_toArray, List.set_cons_zero, List.set_cons_succ, i64_w, i32_w]
      rfl
     refine pure_ (i := 7) (N := some 47) (v := undef) (a' := ?_) #[true, true, true, true, true, true, true, true, false, false, false, false, false, false, false, false, false, false, false, false, false] rfl rfl (any_of HT_.out (by kernel_rfl)) (fun _ _ _ h => h) (Or.inr ⟨by rfl, rfl⟩) ?_ ?_
     rotate_left
     ·simp only [Act.put, List.setIfInBounds_toArray, List.set_cons_zero, List.set_cons_succ, i64_w, i32_w]
      rfl
     refine pure_ (i := 8) (N := some 48) (v := undef) (a' := ?_) #[true, true, true, true, true, true, true, true, true, false, false, false, false, false, false, false, false, false, false, false, false] rfl rfl (any_of HT_.out (by kernel_rfl)) (fun _ _ _ h => h) (Or.inr ⟨by rfl, rfl⟩) ?_ ?_
     rotate_left
     ·simp only [Act.put, List.setIfInBounds_toArray, List.set_cons_zero, List.set_cons_succ, i64_w, i32_w]
      rfl
     refine pure_ (i := 9) (N := some 49) (v := undef) (a' := ?_) #[true, true, true, true, true, true, true, true, true, true, false, false, false, false, false, false, false, false, false, false, false] rfl rfl (any_of HT_.out (by kernel_rfl)) (fun _ _ _ h => h) (Or.inr ⟨by rfl, rfl⟩) ?_ ?_
     rotate_left
     ·simp only [Act.put, List.setIfInBounds_toArray, List.set_cons_zero, List.set_cons_succ, i64_w, i32_w]
      rfl
     refine pure_ (i := 10) (N := some 50) (v := undef) (a' := ?_) #[true, true, true, true, true, true, true, true, true, true, true, false, false, false, false, false, false, false, false, false, false] rfl rfl (any_of HT_.out (by kernel_rfl)) (fun _ _ _ h => h) (Or.inr ⟨by rfl, rfl⟩) ?_ ?_
     rotate_left
     ·simp only [Act.put, List.setIfInBounds_toArray, List.set_cons_zero, List.set_cons_succ, i64_w, i32_w]
      rfl
     refine pure_ (i := 11) (N := some 51) (v := undef) (a' := ?_) #[true, true, true, true, true, true, true, true, true, true, true, true, false, false, false, false, false, false, false, false, false] rfl rfl (any_of HT_.out (by kernel_rfl)) (fun _ _ _ h => h) (Or.inr ⟨by rfl, rfl⟩) ?_ ?_
     rotate_left
     ·simp only [Act.put, List.setIfInBounds_toArray, List.set_cons_zero, List.set_cons_succ, i64_w, i32_w]
      rfl
     refine pure_ (i := 12) (N := some 52) (v := undef) (a' := ?_) #[true, true, true, true, true, true, true, true, true, true, true, true, true, false, false, false, false, false, false, false, false] rfl rfl (any_of HT_.out (by kernel_rfl)) (fun _ _ _ h => h) (Or.inr ⟨by rfl, rfl⟩) ?_ ?_
     rotate_left
     ·simp only [Act.put, List.setIfInBounds_toArray, List.set_cons_zero, List.set_cons_succ, i64_w, i32_w]
      rfl
     refine pure_ (i := 13) (N := some 53) (v := undef) (a' := ?_) #[true, true, true, true, true, true, true, true, true, true, true, true, true, true, false, false, false, false, false, false, false] rfl rfl (any_of HT_.out (by kernel_rfl)) (fun _ _ _ h => h) (Or.inr ⟨by rfl, rfl⟩) ?_ ?_
     rotate_left
     ·simp only [Act.put, List.setIfInBounds_toArray, List.set_cons_zero, List.set_cons_succ, i64_w, i32_w]
      rfl
     refine pure_ (i := 14) (N := some 54) (v := undef) (a' := ?_) #[true, true, true, true, true, true, true, true, true, true, true, true, true, true, true, false, false, false, false, false, false] rfl rfl (any_of HT_.out (by kernel_rfl)) (fun _ _ _ h => h) (Or.inr ⟨by rfl, rfl⟩) ?_ ?_
     rotate_left
     ·simp only [Act.put, List.setIfInBounds_toArray, List.set_cons_zero, List.set_cons_succ, i64_w, i32_w]
      rfl
     refine pure_ (i := 15) (N := some 55) (v := undef) (a' := ?_) #[true, true, true, true, true, true, true, true, true, true, true, true, true, true, true, true, false, false, false, false, false] rfl rfl (any_of HT_.out (by kernel_rfl)) (fun _ _ _ h => h) (Or.inr ⟨by rfl, rfl⟩) ?_ ?_
     rotate_left
     ·simp only [Act.put, List.setIfInBounds_toArray, List.set_cons_zero, List.set_cons_succ, i64_w, i32_w]
      rfl
     refine pure_ (i := 16) (N := some 56) (v := undef) (a' := ?_) #[true, true, true, true, true, true, true, true, true, true, true, true, true, true, true, true, true, false, false, false, false] rfl rfl (any_of HT_.out (by kernel_rfl)) (fun _ _ _ h => h) (Or.inr ⟨by rfl, rfl⟩) ?_ ?_
     rotate_left
     ·simp only [Act.put, List.setIfInBounds_toArray, List.set_cons_zero, List.set_cons_succ, i64_w, i32_w]
      rfl
     refine pure_ (i := 17) (N := some 57) (v := undef) (a' := ?_) #[true, true, true, true, true, true, true, true, true, true, true, true, true, true, true, true, true, true, false, false, false] rfl rfl (any_of HT_.out (by kernel_rfl)) (fun _ _ _ h => h) (Or.inr ⟨by rfl, rfl⟩) ?_ ?_
     rotate_left
     ·simp only [Act.put, List.setIfInBounds_toArray, List.set_cons_zero, List.set_cons_succ, i64_w, i32_w]
      rfl
     refine pure_ (i := 18) (N := some 58) (v := undef) (a' := ?_) #[true, true, true, true, true, true, true, true, true, true, true, true, true, true, true, true, true, true, true, false, false] rfl rfl (any_of HT_.out (by kernel_rfl)) (fun _ _ _ h => h) (Or.inr ⟨by rfl, rfl⟩) ?_ ?_
     rotate_left
     ·simp only [Act.put, List.setIfInBounds_toArray, List.set_cons_zero, List.set_cons_succ, i64_w, i32_w]
      rfl
     refine pure_ (i := 19) (N := some 59) (v := undef) (a' := ?_) #[true, true, true, true, true, true, true, true, true, true, true, true, true, true, true, true, true, true, true, true, false] rfl rfl (any_of HT_.out (by kernel_rfl)) (fun _ _ _ h => h) (Or.inr ⟨by rfl, rfl⟩) ?_ ?_
     rotate_left
     ·simp only [Act.put, List.setIfInBounds_toArray, List.set_cons_zero, List.set_cons_succ, i64_w, i32_w]
      rfl
     refine pure_ (i := 20) (N := some 60) (v := ?_) (a' := ?_) #[true, true, true, true, true, true, true, true, true, true, true, true, true, true, true, true, true, true, true, true, true] rfl rfl (any_of HT_.out (by kernel_rfl)) (fun _ _ _ h => h) (Or.inl ⟨by rfl, ?_⟩) ?_ ?_
     rotate_left
     ·intro w'
      go_simp
      with_reducible rfl
     rotate_left
     ·simp only [Act.put, List.setIfInBounds_toArray, List.set_cons_zero, List.set_cons_succ, i64_w, i32_w]
      rfl
     refine done_ (done_of HT_.out (by kernel_rfl)) ?_
     try go_wp2
     go_meet
     case rel => exact ⟨_, (false), (by first | rfl | (simp; done) | (simp [*]; done)), H', ⟨by first | omega | exact Nat.le_refl _⟩, ⟨by (with_reducible repeat (first | apply Kd.R_alloc | apply Kd.R_drewN | apply Kd.R_drew)); exact HO103.out⟩, ⟨by (with_reducible repeat (first | apply Kd.R_alloc | apply Kd.R_drewN | apply Kd.R_drew)); exact HO106.out⟩, ⟨by (with_reducible repeat (first | apply Kd.R_alloc | apply Kd.R_drewN | apply Kd.R_drew)); exact HO109.out⟩, ⟨by (with_reducible repeat (first | apply Kd.R_alloc | apply Kd.R_drewN | apply Kd.R_drew)); exact HO112.out⟩, ⟨by (with_reducible repeat (first | refine blk_drewN ?_ _ | refine blk_drew ?_ | refine blk_alloc ?_ _)); exact BK113.out⟩, ⟨by (with_reducible repeat (first | refine blk_drewN ?_ _ | refine blk_drew ?_ | refine blk_alloc ?_ _)); exact BK114.out⟩, ⟨by repeat (first | (with_reducible first | exact HB.out | apply below_alloc | apply pw_below_drewN | apply below_drew1 | refine below_set ?_ GE113.out | refine below_set ?_ GE114.out) | exact HB.out)⟩⟩
   ·rw [if_neg c27] at H
    exact absurd H (by simp)
  ·rw [if_neg c26] at H
   exact absurd H (by simp)
 case rest =>
  clear HC11
  try clear c1
  try clear p1
  try clear q1
  try clear hx1
  try clear c2
  try clear p2
  try clear c3
  try clear c4
  try clear p11
  try clear q11
  try clear hx11
  try clear c19
  try clear c22
  try clear c26
  try clear c26b0
  try clear c27
  try clear c27b0
  try clear c28
  try clear c28b0
  try clear c31
  try clear c32
  try clear c33
  try clear hcz24_0
  try clear hcz24_1
  try clear hfz24_0
  try clear hfz24_1
  try clear hx119_0
  try clear p119
  try clear q119
  obtain ⟨kq, x60_10, rfl, HA, HJ10, HO_114000, HO_114001, HO_115000, HO_115001, BK113, BK114, HB⟩ := hcut
  cases kq with
  | zero => exact absurd HA.out (by simp [imprimaturlaw07_EnterSelf.j0])
  | succ kj10 =>
   have H := HA.out
   clear HA
   simp only [imprimaturlaw07_EnterSelf.j0] at H
   by_cases c41 : x60_10 = true
   ·subst c41
    have H1 : (some false) = some r := by rw [if_pos rfl] at H; exact H
    clear H
    have H := H1
    clear H1
    obtain rfl := Option.some.inj H
    go_wp2
    go_ret
    exact ⟨by first | rfl | (simp [errW_none, errW_some] <;> rfl) | (simp [*, errW_none, errW_some] <;> rfl), by repeat (first | (with_reducible first | exact HB.out | apply below_alloc | apply pw_below_drewN | apply below_drew1 | refine below_set ?_ GE113.out | refine below_set ?_ GE114.out) | exact HB.out)⟩
   ·replace c41 := Bool.eq_false_iff.mpr c41
    subst c41
    have H1 : ((imprimaturlaw07_Past.f kj10 t107 t110 l4).bind fun t130 => ((enter_Enter.f t101 t104 t118 t117 t130).bind fun t133 => ((imprimaturlaw07_bits.f kj10 t133).bind fun t136 => ((enter_Leave.f kj10 t101 t104 t115 t118).bind fun t137 => ((imprimaturlaw07_bits.f kj10 t137).bind fun t140 => (imprimaturlaw07_EnterSelf.l0 kj10 t115 t118 t136 t140 (t101.length : Int) 0 t101 t104)))))) = some r := by rw [if_neg (show ¬ (false = true) by decide)] at H; exact H
    clear H
    have H := H1
    clear H1
    replace H := Option.bind_eq_some_iff.mp H
    obtain ⟨t130, A420, H⟩ := H
    replace H : ((enter_Enter.f t101 t104 t118 t117 t130).bind fun t133 => ((imprimaturlaw07_bits.f kj10 t133).bind fun t136 => ((enter_Leave.f kj10 t101 t104 t115 t118).bind fun t137 => ((imprimaturlaw07_bits.f kj10 t137).bind fun t140 => (imprimaturlaw07_EnterSelf.l0 kj10 t115 t118 t136 t140 (t101.length : Int) 0 t101 t104))))) = some r := H
    have A42 := Aside0.mk A420
    clear A420
    replace H := Option.bind_eq_some_iff.mp H
    obtain ⟨t133, A430, H⟩ := H
    replace H : ((imprimaturlaw07_bits.f kj10 t133).bind fun t136 => ((enter_Leave.f kj10 t101 t104 t115 t118).bind fun t137 => ((imprimaturlaw07_bits.f kj10 t137).bind fun t140 => (imprimaturlaw07_EnterSelf.l0 kj10 t115 t118 t136 t140 (t101.length : Int) 0 t101 t104)))) = some r := H
    have A43 := Aside0.mk A430
    clear A430
    replace H := Option.bind_eq_some_iff.mp H
    obtain ⟨t136, A440, H⟩ := H
    replace H : ((enter_Leave.f kj10 t101 t104 t115 t118).bind fun t137 => ((imprimaturlaw07_bits.f kj10 t137).bind fun t140 => (imprimaturlaw07_EnterSelf.l0 kj10 t115 t118 t136 t140 (t101.length : Int) 0 t101 t104))) = some r := H
    have A44 := Aside0.mk A440
    clear A440
    replace H := Option.bind_eq_some_iff.mp H
    obtain ⟨t137, A450, H⟩ := H
    replace H : ((imprimaturlaw07_bits.f kj10 t137).bind fun t140 => (imprimaturlaw07_EnterSelf.l0 kj10 t115 t118 t136 t140 (t101.length : Int) 0 t101 t104)) = some r := H
    have A45 := Aside0.mk A450
    clear A450
    replace H := Option.bind_eq_some_iff.mp H
    obtain ⟨t140, A460, H⟩ := H
    replace H : (imprimaturlaw07_EnterSelf.l0 kj10 t115 t118 t136 t140 (t101.length : Int) 0 t101 t104) = some r := H
    have A46 := Aside0.mk A460
    clear A460
    have H' := Aside0.mk H
    clear H
    try go_wp2
    have n0_ := Aside0.mk (Kd.R_drew HO_114000.out)
    have n1_ := Aside0.mk (Kd.R_drew HO_114001.out)
    have n2_ := Aside0.mk (Kd.R_drew HO_115000.out)
    have n3_ := Aside0.mk (Kd.R_drew HO_115001.out)
    have n4_ := Aside0.mk (blk_drew BK113.out)
    have n5_ := Aside0.mk (blk_drew BK114.out)
    have n6_ := Aside0.mk (below_drew1 HB.out)
    clear HO_114000
    clear HO_114001
    clear HO_115000
    clear HO_115001
    clear BK113
    clear BK114
    clear HB
    have HO_114000 := n0_
    have HO_114001 := n1_
    have HO_115000 := n2_
    have HO_115001 := n3_
    have BK113 := n4_
    have BK114 := n5_
    have HB := n6_
    clear n0_ n1_ n2_ n3_ n4_ n5_ n6_
    refine start_ (n := 15) (S := fun w' => w'.cell? ⟨gb113, 0, none⟩ = some (.slice Ao15 t101.length co15) ∧ w'.cell? ⟨gb113, 1, none⟩ = some (.slice Ao18 t104.length co18) ∧ w'.cell? ⟨gb114, 0, none⟩ = some (.slice Ao19 t107.length co19) ∧ w'.cell? ⟨gb114, 1, none⟩ = some (.slice Ao21 t110.length co21)) (ds := []) #[false, false, false, false, false, false, false, false, false, false, false, false, false, false, false] (by kernel_rfl) rfl rfl ⟨(blk_cell BK113.out 0).trans rfl, (blk_cell BK113.out 1).trans rfl, (blk_cell BK114.out 0).trans rfl, (blk_cell BK114.out 1).trans rfl⟩ (fun hHeld => ?_); refine with_tabW imprimaturlaw07_EnterSelf.tab7 imprimaturlaw07_EnterSelf.bits7 (fun HT_ HW_ => ?_)
    generalize wc.drew = w47 at HO_114000 HO_114001 HO_115000 HO_115001 BK113 BK114 HB hHeld ⊢
    refine pure_ (i := 1) (N := some 62) (v := ?_) (a' := ?_) #[false, true, false, false, false, false, false, false, false, false, false, false, false, false, false] rfl rfl (any_of HT_.out (by kernel_rfl)) (fun _ _ _ h => h) (Or.inl ⟨by rfl, ?_⟩) ?_ ?_
    rotate_left
    ·intro w'
     go_simp
     with_reducible rfl
    rotate_left
    ·simp only [Act.put, List.setIfInBounds_toArray, List.set_cons_zero, List.set_cons_succ, i64_w, i32_w]
     rfl
    refine pure_ (i := 2) (N := some 63) (v := ?_) (a' := ?_) #[false, true, true, false, false, false, false, false, false, false, false, false, false, false, false] rfl rfl (any_of HT_.out (by kernel_rfl)) (fun _ _ _ h => h) (Or.inl ⟨by rfl, ?_⟩) ?_ ?_
    rotate_left
    ·intro w'
     go_simp
     with_reducible rfl
    rotate_left
    ·simp only [Act.put, List.setIfInBounds_toArray, List.set_cons_zero, List.set_cons_succ, i64_w, i32_w]
     rfl
    refine pure_ (i := 4) (N := some 65) (v := ?_) (a' := ?_) #[false, true, true, false, true, false, false, false, false, false, false, false, false, false, false] rfl rfl (any_of HT_.out (by kernel_rfl)) (fun _ _ _ h => h) (Or.inl ⟨by rfl, ?_⟩) ?_ ?_
    rotate_left
    ·intro w'
     go_simp
     with_reducible rfl
    rotate_left
    ·simp only [Act.put, List.setIfInBounds_toArray, List.set_cons_zero, List.set_cons_succ, i64_w, i32_w]
     rfl
    refine pure_ (i := 9) (N := some 70) (v := ?_) (a' := ?_) #[false, true, true, false, true, false, false, false, false, true, false, false, false, false, false] rfl rfl (any_of HT_.out (by kernel_rfl)) (fun _ _ _ h => h) (Or.inl ⟨by rfl, ?_⟩) ?_ ?_
    rotate_left
    ·intro w'
     go_simp
     with_reducible rfl
    rotate_left
    ·simp only [Act.put, List.setIfInBounds_toArray, List.set_cons_zero, List.set_cons_succ, i64_w, i32_w]
     rfl
    refine pure_ (i := 10) (N := some 71) (v := ?_) (a' := ?_) #[false, true, true, false, true, false, false, false, false, true, true, false, false, false, false] rfl rfl (any_of HT_.out (by kernel_rfl)) (fun _ _ _ h => h) (Or.inl ⟨by rfl, ?_⟩) ?_ ?_
    rotate_left
    ·intro w'
     go_simp
     with_reducible rfl
    rotate_left
    ·simp only [Act.put, List.setIfInBounds_toArray, List.set_cons_zero, List.set_cons_succ, i64_w, i32_w]
     rfl
    refine take_ (i := 0) (N := some 61) (v := ?_) (a' := ?_) #[true, true, true, false, true, false, false, false, false, true, true, false, false, false, false] rfl rfl (take_ofW HT_.out HW_.out (by kernel_rfl)) (fun _ _ _ h => h) (Or.inl ⟨by rfl, ?_⟩) hHeld ?_ ?_
    rotate_left
    ·rintro w' ⟨s0, s1, s2, s3⟩
     go_simp
     with_reducible rfl
    rotate_left
    ·simp only [Act.put, List.setIfInBounds_toArray, List.set_cons_zero, List.set_cons_succ, i64_w, i32_w]
     rfl
    refine take_ (i := 3) (N := some 64) (v := ?_) (a' := ?_) #[true, true, true, true, true, false, false, false, false, true, true, false, false, false, false] rfl rfl (take_ofW HT_.out HW_.out (by kernel_rfl)) (fun _ _ _ h => h) (Or.inl ⟨by rfl, ?_⟩) hHeld ?_ ?_
    rotate_left
    ·rintro w' ⟨s0, s1, s2, s3⟩
     go_simp
     with_reducible rfl
    rotate_left
    ·simp only [Act.put, List.setIfInBounds_toArray, List.set_cons_zero, List.set_cons_succ, i64_w, i32_w]
     rfl
    refine take_ (i := 8) (N := some 69) (v := ?_) (a' := ?_) #[true, true, true, true, true, false, false, false, true, true, true, false, false, false, false] rfl rfl (take_ofW HT_.out HW_.out (by kernel_rfl)) (fun _ _ _ h => h) (Or.inl ⟨by rfl, ?_⟩) hHeld ?_ ?_
    rotate_left
    ·rintro w' ⟨s0, s1, s2, s3⟩
     go_simp
     with_reducible rfl
    rotate_left
    ·simp only [Act.put, List.setIfInBounds_toArray, List.set_cons_zero, List.set_cons_succ, i64_w, i32_w]
     rfl
    refine one_ (i := 5) (N := some 66) #[true, true, true, true, true, true, false, false, true, true, true, false, false, false, false] rfl rfl (one_of HT_.out (by kernel_rfl)) (by decide) (fun K hK => ?_)
    refine goes_ Try.func22 (by kernel_rfl) rfl #[.agg #[.slice Ao19 t107.length co19, .slice Ao21 t110.length co21], .slice A4 l4.length c4] (by rfl) rfl rfl (by (try simp only [List.map_toArray, List.map_cons, List.map_nil]); first | done | rfl | (simp only [List.length_drop, List.length_take]; rfl)) ?_
    with_reducible refine (imprimaturlaw07_Past.calls kj10 _ _ t107 _ _ t110 _ _ l4 t130 _ ?side1 ?side2 ?side3 ?side4 ?side5 ?side6 A42.out).mono ?_
    (case side1 => repeat (first | exact (Kd.R_reads' HO_115000.out).2.2 | (with_reducible refine Kd.C_alloc ?_ _) | (with_reducible refine Kd.C_drewN ?_ _) | (with_reducible refine Kd.C_drew ?_)))
    (case side2 => exact (Kd.R_reads' HO_115000.out).2.1)
    (case side3 => repeat (first | exact (Kd.R_reads' HO_115001.out).2.2 | (with_reducible refine Kd.C_alloc ?_ _) | (with_reducible refine Kd.C_drewN ?_ _) | (with_reducible refine Kd.C_drew ?_)))
    (case side4 => exact (Kd.R_reads' HO_115001.out).2.1)
    (case side5 => repeat (first | exact (Kd.C_below HR4.out HB.out) | (with_reducible refine Kd.C_alloc ?_ _) | (with_reducible refine Kd.C_drewN ?_ _) | (with_reducible refine Kd.C_drew ?_)))
    (case side6 => exact HC4.out)
    rintro e w48 ⟨v131, rfl, ho0, hb⟩
    refine ⟨_, rfl, ?_⟩
    have n0_ := Aside0.mk (Kd.R_below (by (with_reducible repeat (first | apply Kd.R_alloc | apply Kd.R_drewN | apply Kd.R_drew)); exact HO_114000.out) hb)
    have n1_ := Aside0.mk (Kd.R_below (by (with_reducible repeat (first | apply Kd.R_alloc | apply Kd.R_drewN | apply Kd.R_drew)); exact HO_114001.out) hb)
    have n2_ := Aside0.mk (Kd.R_below (by (with_reducible repeat (first | apply Kd.R_alloc | apply Kd.R_drewN | apply Kd.R_drew)); exact HO_115000.out) hb)
    have n3_ := Aside0.mk (Kd.R_below (by (with_reducible repeat (first | apply Kd.R_alloc | apply Kd.R_drewN | apply Kd.R_drew)); exact HO_115001.out) hb)
    have n4_ := Aside0.mk (Kd.R_lower ho0 (below_size (by repeat (first | (with_reducible first | exact HB.out | apply below_alloc | apply pw_below_drewN | apply below_drew1 | refine below_set ?_ GE113.out | refine below_set ?_ GE114.out) | exact HB.out))))
    have n5_ := Aside0.mk (blk_below (g := gb113) (o := .cells #[.slice Ao15 t101.length co15, .slice Ao18 t104.length co18] 24 (0, 0)) (by (with_reducible repeat (first | refine blk_drewN ?_ _ | refine blk_drew ?_ | refine blk_alloc ?_ _)); exact BK113.out) hb)
    have n6_ := Aside0.mk (blk_below (g := gb114) (o := .cells #[.slice Ao19 t107.length co19, .slice Ao21 t110.length co21] 25 (0, 0)) (by (with_reducible repeat (first | refine blk_drewN ?_ _ | refine blk_drew ?_ | refine blk_alloc ?_ _)); exact BK114.out) hb)
    have n7_ := Aside0.mk (below_step (by repeat (first | (with_reducible first | exact HB.out | apply below_alloc | apply pw_below_drewN | apply below_drew1 | refine below_set ?_ GE113.out | refine below_set ?_ GE114.out) | exact HB.out)) hb)
    clear HO_114000
    clear HO_114001
    clear HO_115000
    clear HO_115001
    clear BK113
    clear BK114
    clear HB
    have HO_114000 := n0_
    have HO_114001 := n1_
    have HO_115000 := n2_
    have HO_115001 := n3_
    have HO132 := n4_
    have BK113 := n5_
    have BK114 := n6_
    have HB := n7_
    clear n0_ n1_ n2_ n3_ n4_ n5_ n6_ n7_
    (try clear hb)
    (try clear hb2)
    (try clear hk)
    (try clear hi)
    (try clear ho0)
    obtain ⟨Ao49, co49, eo49⟩ := Kd.R_slice HO132.out
    (first | subst eo49 | (injection eo49 with f1_ f2_ f3_; have f4_ := f1_.symm; have f5_ := f3_.symm; clear f1_ f2_ f3_; subst f4_; subst f5_))
    refine hK.out _ _ ⟨(blk_cell BK113.out 0).trans rfl, (blk_cell BK113.out 1).trans rfl, (blk_cell BK114.out 0).trans rfl, (blk_cell BK114.out 1).trans rfl⟩ (fun hHeld => ?_)
    clear hK K
    refine norm_ (a' := ?_) ?_ ?_
    rotate_left
    ·show Act.put _ (some 66) _ = _
     simp only [Act.put, List.setIfInBounds_toArray, List.set_cons_zero, List.set_cons_succ, i64_w, i32_w]
     rfl
    refine one_ (i := 6) (N := some 67) #[true, true, true, true, true, true, true, false, true, true, true, false, false, false, false] rfl rfl (one_of HT_.out (by kernel_rfl)) (by decide) (fun K hK => ?_)
    refine goes_ Try.func33 (by kernel_rfl) rfl #[.agg #[.slice Ao15 t101.length co15, .slice Ao18 t104.length co18], .int .i64 t118, .int .i64 t117, .slice Ao49 t130.length co49] (by rfl) rfl rfl (by (try simp only [List.map_toArray, List.map_cons, List.map_nil]); first | done | rfl | (simp only [List.length_drop, List.length_take]; rfl)) ?_
    with_reducible refine (enter_Enter.calls _ _ t101 _ _ t104 t118 t117 _ _ t130 t133 _ ?side1 ?side2 ?side3 ?side4 ?side5 ?side6 A43.out).mono ?_
    (case side1 => repeat (first | exact (Kd.R_reads' HO_114000.out).2.2 | (with_reducible refine Kd.C_alloc ?_ _) | (with_reducible refine Kd.C_drewN ?_ _) | (with_reducible refine Kd.C_drew ?_)))
    (case side2 => exact (Kd.R_reads' HO_114000.out).2.1)
    (case side3 => repeat (first | exact (Kd.R_reads' HO_114001.out).2.2 | (with_reducible refine Kd.C_alloc ?_ _) | (with_reducible refine Kd.C_drewN ?_ _) | (with_reducible refine Kd.C_drew ?_)))
    (case side4 => exact (Kd.R_reads' HO_114001.out).2.1)
    (case side5 => repeat (first | exact (Kd.R_reads' HO132.out).2.2 | (with_reducible refine Kd.C_alloc ?_ _) | (with_reducible refine Kd.C_drewN ?_ _) | (with_reducible refine Kd.C_drew ?_)))
    (case side6 => exact (Kd.R_reads' HO132.out).2.1)
    rintro e w50 ⟨v134, rfl, ho0, hb⟩
    refine ⟨_, rfl, ?_⟩
    have n0_ := Aside0.mk (Kd.R_elder' (by (with_reducible repeat (first | apply Kd.R_alloc | apply Kd.R_drewN | apply Kd.R_drew)); exact HO_114000.out) (Kd.R_base ho0) hb)
    have n1_ := Aside0.mk (Kd.R_elder' (by (with_reducible repeat (first | apply Kd.R_alloc | apply Kd.R_drewN | apply Kd.R_drew)); exact HO_114001.out) (Kd.R_base ho0) hb)
    have n2_ := Aside0.mk (Kd.R_elder' (by (with_reducible repeat (first | apply Kd.R_alloc | apply Kd.R_drewN | apply Kd.R_drew)); exact HO_115000.out) (Kd.R_base ho0) hb)
    have n3_ := Aside0.mk (Kd.R_elder' (by (with_reducible repeat (first | apply Kd.R_alloc | apply Kd.R_drewN | apply Kd.R_drew)); exact HO_115001.out) (Kd.R_base ho0) hb)
    have n4_ := Aside0.mk (Kd.R_below (by (with_reducible repeat (first | apply Kd.R_alloc | apply Kd.R_drewN | apply Kd.R_drew)); exact HO132.out) hb)
    have n5_ := Aside0.mk (Kd.R_lower (Kd.R_new' (Kd.R_new' (Kd.R_new' (Kd.R_new' ho0 (Kd.R_lt (by (with_reducible repeat (first | apply Kd.R_alloc | apply Kd.R_drewN | apply Kd.R_drew)); exact HO_114000.out))) (Kd.R_lt (by (with_reducible repeat (first | apply Kd.R_alloc | apply Kd.R_drewN | apply Kd.R_drew)); exact HO_114001.out))) (Kd.R_lt (by (with_reducible repeat (first | apply Kd.R_alloc | apply Kd.R_drewN | apply Kd.R_drew)); exact HO_115000.out))) (Kd.R_lt (by (with_reducible repeat (first | apply Kd.R_alloc | apply Kd.R_drewN | apply Kd.R_drew)); exact HO_115001.out))) (below_size (by repeat (first | (with_reducible first | exact HB.out | apply below_alloc | apply pw_below_drewN | apply below_drew1 | refine below_set ?_ GE113.out | refine below_set ?_ GE114.out) | exact HB.out))))
    have n6_ := Aside0.mk (blk_below (g := gb113) (o := .cells #[.slice Ao15 t101.length co15, .slice Ao18 t104.length co18] 24 (0, 0)) (by (with_reducible repeat (first | refine blk_drewN ?_ _ | refine blk_drew ?_ | refine blk_alloc ?_ _)); exact BK113.out) hb)
    have n7_ := Aside0.mk (blk_below (g := gb114) (o := .cells #[.slice Ao19 t107.length co19, .slice Ao21 t110.length co21] 25 (0, 0)) (by (with_reducible repeat (first | refine blk_drewN ?_ _ | refine blk_drew ?_ | refine blk_alloc ?_ _)); exact BK114.out) hb)
    have n8_ := Aside0.mk (below_step (by repeat (first | (with_reducible first | exact HB.out | apply below_alloc | apply pw_below_drewN | apply below_drew1 | refine below_set ?_ GE113.out | refine below_set ?_ GE114.out) | exact HB.out)) hb)
    clear HO_114000
    clear HO_114001
    clear HO_115000
    clear HO_115001
    clear HO132
    clear BK113
    clear BK114
    clear HB
    have HO_114000 := n0_
    have HO_114001 := n1_
    have HO_115000 := n2_
    have HO_115001 := n3_
    have HO132 := n4_
    have HO135 := n5_
    have BK113 := n6_
    have BK114 := n7_
    have HB := n8_
    clear n0_ n1_ n2_ n3_ n4_ n5_ n6_ n7_ n8_
    (try clear hb)
    (try clear hb2)
    (try clear hk)
    (try clear hi)
    (try clear ho0)
    obtain ⟨Ao51, co51, eo51⟩ := Kd.R_slice HO135.out
    (first | subst eo51 | (injection eo51 with f1_ f2_ f3_; have f4_ := f1_.symm; have f5_ := f3_.symm; clear f1_ f2_ f3_; subst f4_; subst f5_))
    refine hK.out _ _ ⟨(blk_cell BK113.out 0).trans rfl, (blk_cell BK113.out 1).trans rfl, (blk_cell BK114.out 0).trans rfl, (blk_cell BK114.out 1).trans rfl⟩ (fun hHeld => ?_)
    clear hK K
    refine norm_ (a' := ?_) ?_ ?_
    rotate_left
    ·show Act.put _ (some 67) _ = _
     simp only [Act.put, List.setIfInBounds_toArray, List.set_cons_zero, List.set_cons_succ, i64_w, i32_w]
     rfl
    refine one_ (i := 7) (N := some 68) #[true, true, true, true, true, true, true, true, true, true, true, false, false, false, false] rfl rfl (one_of HT_.out (by kernel_rfl)) (by decide) (fun K hK => ?_)
    refine goes_ Try.func26 (by kernel_rfl) rfl #[.slice Ao51 t133.length co51] (by rfl) rfl rfl (by (try simp only [List.map_toArray, List.map_cons, List.map_nil]); first | done | rfl | (simp only [List.length_drop, List.length_take]; rfl)) ?_
    with_reducible refine (imprimaturlaw07_bits.calls kj10 _ _ t133 t136 _ ?side1 ?side2 A44.out).mono ?_
    (case side1 => repeat (first | exact (Kd.R_reads' HO135.out).2.2 | (with_reducible refine Kd.C_alloc ?_ _) | (with_reducible refine Kd.C_drewN ?_ _) | (with_reducible refine Kd.C_drew ?_)))
    (case side2 => exact (Kd.R_reads' HO135.out).2.1)
    rintro e w' ⟨rfl, ⟨nd, rfl⟩⟩
    refine ⟨_, rfl, ?_⟩
    refine hK.out _ _ ⟨(blk_cell BK113.out 0).trans rfl, (blk_cell BK113.out 1).trans rfl, (blk_cell BK114.out 0).trans rfl, (blk_cell BK114.out 1).trans rfl⟩ (fun hHeld => ?_)
    clear hK K
    refine norm_ (a' := ?_) ?_ ?_
    rotate_left
    ·show Act.put _ (some 68) _ = _
     simp only [Act.put, List.setIfInBounds_toArray, List.set_cons_zero, List.set_cons_succ, i64_w, i32_w]
     rfl
    refine one_ (i := 11) (N := some 72) #[true, true, true, true, true, true, true, true, true, true, true, true, false, false, false] rfl rfl (one_of HT_.out (by kernel_rfl)) (by decide) (fun K hK => ?_)
    refine goes_ Try.func23 (by kernel_rfl) rfl #[.agg #[.slice Ao15 t101.length co15, .slice Ao18 t104.length co18], .int .u32 t115, .int .i64 t118] (by rfl) rfl rfl (by (try simp only [List.map_toArray, List.map_cons, List.map_nil]); first | done | rfl | (simp only [List.length_drop, List.length_take]; rfl)) ?_
    with_reducible refine (enter_Leave.calls kj10 _ _ t101 _ _ t104 t115 t118 t137 _ ?side1 ?side2 ?side3 ?side4 A45.out).mono ?_
    (case side1 => repeat (first | exact (Kd.R_reads' HO_114000.out).2.2 | (with_reducible refine Kd.C_alloc ?_ _) | (with_reducible refine Kd.C_drewN ?_ _) | (with_reducible refine Kd.C_drew ?_)))
    (case side2 => exact (Kd.R_reads' HO_114000.out).2.1)
    (case side3 => repeat (first | exact (Kd.R_reads' HO_114001.out).2.2 | (with_reducible refine Kd.C_alloc ?_ _) | (with_reducible refine Kd.C_drewN ?_ _) | (with_reducible refine Kd.C_drew ?_)))
    (case side4 => exact (Kd.R_reads' HO_114001.out).2.1)
    rintro e w52 ⟨v138, rfl, ho0, hb⟩
    refine ⟨_, rfl, ?_⟩
    have n0_ := Aside0.mk (Kd.R_elder' (by (with_reducible repeat (first | apply Kd.R_alloc | apply Kd.R_drewN | apply Kd.R_drew)); exact HO_114000.out) (Kd.R_base ho0) hb)
    have n1_ := Aside0.mk (Kd.R_elder' (by (with_reducible repeat (first | apply Kd.R_alloc | apply Kd.R_drewN | apply Kd.R_drew)); exact HO_114001.out) (Kd.R_base ho0) hb)
    have n2_ := Aside0.mk (Kd.R_elder' (by (with_reducible repeat (first | apply Kd.R_alloc | apply Kd.R_drewN | apply Kd.R_drew)); exact HO_115000.out) (Kd.R_base ho0) hb)
    have n3_ := Aside0.mk (Kd.R_elder' (by (with_reducible repeat (first | apply Kd.R_alloc | apply Kd.R_drewN | apply Kd.R_drew)); exact HO_115001.out) (Kd.R_base ho0) hb)
    have n4_ := Aside0.mk (Kd.R_below (by (with_reducible repeat (first | apply Kd.R_alloc | apply Kd.R_drewN | apply Kd.R_drew)); exact HO132.out) hb)
    have n5_ := Aside0.mk (Kd.R_elder' (by (with_reducible repeat (first | apply Kd.R_alloc | apply Kd.R_drewN | apply Kd.R_drew)); exact HO135.out) (Kd.R_base ho0) hb)
    have n6_ := Aside0.mk (Kd.R_lower (Kd.R_new' (Kd.R_new' (Kd.R_new' (Kd.R_new' (Kd.R_new' ho0 (Kd.R_lt (by (with_reducible repeat (first | apply Kd.R_alloc | apply Kd.R_drewN | apply Kd.R_drew)); exact HO_114000.out))) (Kd.R_lt (by (with_reducible repeat (first | apply Kd.R_alloc | apply Kd.R_drewN | apply Kd.R_drew)); exact HO_114001.out))) (Kd.R_lt (by (with_reducible repeat (first | apply Kd.R_alloc | apply Kd.R_drewN | apply Kd.R_drew)); exact HO_115000.out))) (Kd.R_lt (by (with_reducible repeat (first | apply Kd.R_alloc | apply Kd.R_drewN | apply Kd.R_drew)); exact HO_115001.out))) (Kd.R_lt (by (with_reducible repeat (first | apply Kd.R_alloc | apply Kd.R_drewN | apply Kd.R_drew)); exact HO135.out))) (below_size (by repeat (first | (with_reducible first | exact HB.out | apply below_alloc | apply pw_below_drewN | apply below_drew1 | refine below_set ?_ GE113.out | refine below_set ?_ GE114.out) | exact HB.out))))
    have n7_ := Aside0.mk (blk_below (g := gb113) (o := .cells #[.slice Ao15 t101.length co15, .slice Ao18 t104.length co18] 24 (0, 0)) (by (with_reducible repeat (first | refine blk_drewN ?_ _ | refine blk_drew ?_ | refine blk_alloc ?_ _)); exact BK113.out) hb)
    have n8_ := Aside0.mk (blk_below (g := gb114) (o := .cells #[.slice Ao19 t107.length co19, .slice Ao21 t110.length co21] 25 (0, 0)) (by (with_reducible repeat (first | refine blk_drewN ?_ _ | refine blk_drew ?_ | refine blk_alloc ?_ _)); exact BK114.out) hb)
    have n9_ := Aside0.mk (below_step (by repeat (first | (with_reducible first | exact HB.out | apply below_alloc | apply pw_below_drewN | apply below_drew1 | refine below_set ?_ GE113.out | refine below_set ?_ GE114.out) | exact HB.out)) hb)
    clear HO_114000
    clear HO_114001
    clear HO_115000
    clear HO_115001
    clear HO132
    clear HO135
    clear BK113
    clear BK114
    clear HB
    have HO_114000 := n0_
    have HO_114001 := n1_
    have HO_115000 := n2_
    have HO_115001 := n3_
    have HO132 := n4_
    have HO135 := n5_
    have HO139 := n6_
    have BK113 := n7_
    have BK114 := n8_
    have HB := n9_
    clear n0_ n1_ n2_ n3_ n4_ n5_ n6_ n7_ n8_ n9_
    (try clear hb)
    (try clear hb2)
    (try clear hk)
    (try clear hi)
    (try clear ho0)
    obtain ⟨Ao53, co53, eo53⟩ := Kd.R_slice HO139.out
    (first | subst eo53 | (injection eo53 with f1_ f2_ f3_; have f4_ := f1_.symm; have f5_ := f3_.symm; clear f1_ f2_ f3_; subst f4_; subst f5_))
    refine hK.out _ _ ⟨(blk_cell BK113.out 0).trans rfl, (blk_cell BK113.out 1).trans rfl, (blk_cell BK114.out 0).trans rfl, (blk_cell BK114.out 1).trans rfl⟩ (fun hHeld => ?_)
    clear hK K
    refine norm_ (a' := ?_) ?_ ?_
    rotate_left
    ·show Act.put _ (some 72) _ = _
     simp only [Act.put, List.setIfInBounds_toArray, List.set_cons_zero, List.set_cons_succ, i64_w, i32_w]
     rfl
    refine one_ (i := 12) (N := some 73) #[true, true, true, true, true, true, true, true, true, true, true, true, true, false, false] rfl rfl (one_of HT_.out (by kernel_rfl)) (by decide) (fun K hK => ?_)
    refine goes_ Try.func26 (by kernel_rfl) rfl #[.slice Ao53 t137.length co53] (by rfl) rfl rfl (by (try simp only [List.map_toArray, List.map_cons, List.map_nil]); first | done | rfl | (simp only [List.length_drop, List.length_take]; rfl)) ?_
    with_reducible refine (imprimaturlaw07_bits.calls kj10 _ _ t137 t140 _ ?side1 ?side2 A46.out).mono ?_
    (case side1 => repeat (first | exact (Kd.R_reads' HO139.out).2.2 | (with_reducible refine Kd.C_alloc ?_ _) | (with_reducible refine Kd.C_drewN ?_ _) | (with_reducible refine Kd.C_drew ?_)))
    (case side2 => exact (Kd.R_reads' HO139.out).2.1)
    rintro e w' ⟨rfl, ⟨nd, rfl⟩⟩
    refine ⟨_, rfl, ?_⟩
    refine hK.out _ _ ⟨(blk_cell BK113.out 0).trans rfl, (blk_cell BK113.out 1).trans rfl, (blk_cell BK114.out 0).trans rfl, (blk_cell BK114.out 1).trans rfl⟩ (fun hHeld => ?_)
    clear hK K
    refine norm_ (a' := ?_) ?_ ?_
    rotate_left
    ·show Act.put _ (some 73) _ = _
     simp only [Act.put, List.setIfInBounds_toArray, List.set_cons_zero, List.set_cons_succ, i64_w, i32_w]
     rfl
    refine pure_ (i := 13) (N := some 15) (v := ?_) (a' := ?_) #[true, true, true, true, true, true, true, true, true, true, true, true, true, true, false] rfl rfl (any_of HT_.out (by kernel_rfl)) (fun _ _ _ h => h) (Or.inl ⟨by rfl, ?_⟩) ?_ ?_
    rotate_left
    ·intro w'
     go_simp
     with_reducible rfl
    rotate_left
    ·simp only [Act.put, List.setIfInBounds_toArray, List.set_cons_zero, List.set_cons_succ, i64_w, i32_w]
     rfl
    refine pure_ (i := 14) (N := some 16) (v := ?_) (a' := ?_) #[true, true, true, true, true, true, true, true, true, true, true, true, true, true, true] rfl rfl (any_of HT_.out (by kernel_rfl)) (fun _ _ _ h => h) (Or.inl ⟨by rfl, ?_⟩) ?_ ?_
    rotate_left
    ·intro w'
     go_simp
     with_reducible rfl
    rotate_left
    ·simp only [Act.put, List.setIfInBounds_toArray, List.set_cons_zero, List.set_cons_succ, i64_w, i32_w]
     rfl
    refine done_ (done_of HT_.out (by kernel_rfl)) ?_
    have hnb54 := NB113_114.out
    have hnc54 := NB114_113.out
    have hcz55_0 : w52.cell? ⟨gb113, 0, none⟩ = some (.slice Ao15 t101.length co15) := (blk_cell BK113.out 0).trans rfl
    have hcz55_1 : w52.cell? ⟨gb113, 1, none⟩ = some (.slice Ao18 t104.length co18) := (blk_cell BK113.out 1).trans rfl
    have hfz55_0 := blk_frozen BK113.out 0
    have hfz55_1 := blk_frozen BK113.out 1
    try go_wp2
    go_loopg [77] kj10 (fun kq v77 w' => ∃ (x77_2 : Int), v77 = .int .i64 x77_2 ∧ Aside0 (imprimaturlaw07_EnterSelf.l0 kq t115 t118 t136 t140 (t101.length : Int) x77_2 t101 t104 = some r) ∧ Aside0 (kq ≤ kj10) ∧ Aside0 (Kd.R (Kd.int .i64) 3 w' w.heap.size (fun k_ => some k_ ≠ ((.slice Ao18 t104.length co18) : Value).ownBlock ∧ some k_ ≠ ((.slice Ao19 t107.length co19) : Value).ownBlock ∧ some k_ ≠ ((.slice Ao21 t110.length co21) : Value).ownBlock) (.slice Ao15 t101.length co15) t101) ∧ Aside0 (Kd.R (Kd.int .i64) 3 w' w.heap.size (fun k_ => some k_ ≠ ((.slice Ao15 t101.length co15) : Value).ownBlock ∧ some k_ ≠ ((.slice Ao19 t107.length co19) : Value).ownBlock ∧ some k_ ≠ ((.slice Ao21 t110.length co21) : Value).ownBlock) (.slice Ao18 t104.length co18) t104) ∧ Aside0 (Kd.R (Kd.int .i64) 3 w' w.heap.size (fun k_ => some k_ ≠ ((.slice Ao15 t101.length co15) : Value).ownBlock ∧ some k_ ≠ ((.slice Ao18 t104.length co18) : Value).ownBlock ∧ some k_ ≠ ((.slice Ao21 t110.length co21) : Value).ownBlock) (.slice Ao19 t107.length co19) t107) ∧ Aside0 (Kd.R (Kd.int .i64) 3 w' w.heap.size (fun k_ => some k_ ≠ ((.slice Ao15 t101.length co15) : Value).ownBlock ∧ some k_ ≠ ((.slice Ao18 t104.length co18) : Value).ownBlock ∧ some k_ ≠ ((.slice Ao19 t107.length co19) : Value).ownBlock) (.slice Ao21 t110.length co21) t110) ∧ Aside0 (w'.heap[gb113]? = some (.cells #[(.slice Ao15 t101.length co15), (.slice Ao18 t104.length co18)] 24 (0, 0))) ∧ Aside0 (w'.heap[gb114]? = some (.cells #[(.slice Ao19 t107.length co19), (.slice Ao21 t110.length co21)] 25 (0, 0))) ∧ Aside0 (Below w.heap.size w w'))
    case atStart => exact ⟨(0), (by first | rfl | (simp; done) | (simp [*]; done)), H', ⟨Nat.le_refl _⟩, ⟨by (with_reducible repeat (first | apply Kd.R_alloc | apply Kd.R_drewN | apply Kd.R_drew)); exact Kd.R_mono HO_114000.out (fun _ hk => ⟨hk.1.1.1, ⟨hk.1.1.2.1, hk.1.1.2.2⟩⟩)⟩, ⟨by (with_reducible repeat (first | apply Kd.R_alloc | apply Kd.R_drewN | apply Kd.R_drew)); exact Kd.R_mono HO_114001.out (fun _ hk => ⟨hk.1.1.1, ⟨hk.1.1.2.1, hk.1.1.2.2⟩⟩)⟩, ⟨by (with_reducible repeat (first | apply Kd.R_alloc | apply Kd.R_drewN | apply Kd.R_drew)); exact Kd.R_mono HO_115000.out (fun _ hk => ⟨hk.1.1.1, ⟨hk.1.1.2.1, hk.1.1.2.2⟩⟩)⟩, ⟨by (with_reducible repeat (first | apply Kd.R_alloc | apply Kd.R_drewN | apply Kd.R_drew)); exact Kd.R_mono HO_115001.out (fun _ hk => ⟨hk.1.1.1, ⟨hk.1.1.2.1, hk.1.1.2.2⟩⟩)⟩, ⟨by (with_reducible repeat (first | refine blk_drewN ?_ _ | refine blk_drew ?_ | refine blk_alloc ?_ _)); exact BK113.out⟩, ⟨by (with_reducible repeat (first | refine blk_drewN ?_ _ | refine blk_drew ?_ | refine blk_alloc ?_ _)); exact BK114.out⟩, ⟨by repeat (first | (with_reducible first | exact HB.out | apply below_alloc | apply pw_below_drewN | apply below_drew1 | refine below_set ?_ GE113.out | refine below_set ?_ GE114.out) | exact HB.out)⟩⟩
    case round =>
     clear H'
     try clear c1
     try clear p1
     try clear q1
     try clear hx1
     try clear c2
     try clear p2
     try clear c3
     try clear c4
     try clear c5
     try clear p11
     try clear q11
     try clear hx11
     try clear c19
     try clear c22
     try clear c23
     try clear c26
     try clear c26b0
     try clear c27
     try clear c27b0
     try clear c28
     try clear c28b0
     try clear c31
     try clear c32
     try clear c33
     try clear c41
     try clear c54
     try clear hcz24_0
     try clear hcz24_1
     try clear hcz55_0
     try clear hcz55_1
     try clear hfz24_0
     try clear hfz24_1
     try clear hfz55_0
     try clear hfz55_1
     try clear hx119_0
     try clear p1
     try clear p11
     try clear p119
     try clear p2
     try clear q1
     try clear q11
     try clear q119
     obtain ⟨x77_2, rfl, HA, HK2, HO_114000, HO_114001, HO_115000, HO_115001, BK113, BK114, HB⟩ := hrel
     cases gk with
     | zero => exact absurd HA.out (by simp [imprimaturlaw07_EnterSelf.l0])
     | succ k2 =>
      have H := HA.out
      clear HA
      simp only [imprimaturlaw07_EnterSelf.l0] at H
      by_cases c56 : x77_2 < (t101.length : Int)
      ·rw [if_pos c56] at H
       have c56b0 : decide (x77_2 < (t101.length : Int)) = true := decide_eq_true c56
       clear c56
       by_cases c57 : x77_2 = t118
       ·rw [if_pos c57] at H
        have c57b0 : (x77_2 == t118) = true := beq_iff_eq.mpr c57
        have c57b1 : (x77_2 != t118) = false := bne_eq_false_iff_eq.mpr c57
        clear c57
        obtain ⟨ji58, hji58⟩ : ∃ j_ : Int, (IntKind.u64.wrap (x77_2)) = j_ := ⟨_, rfl⟩
        replace H : (if 0 ≤ (ji58) then (if (Go.bits .and .u32 (shr .u32 (Go.bits .or .u32 t136 t140) (ji58)) 1) = 1 then (some false) else (imprimaturlaw07_EnterSelf.l0 k2 t115 t118 t136 t140 (t101.length : Int) (wrap64 (x77_2 + 1)) t101 t104)) else (none)) = some r := by first | (rw [hji58] at H; exact H) | (simp only [hji58] at H ⊢; exact H)
        by_cases c59 : 0 ≤ (ji58)
        ·rw [if_pos c59] at H
         have c59b0 := eq_true c59
         have c59b1 : decide (0 ≤ (ji58)) = true := decide_eq_true c59
         clear c59
         obtain ⟨ji60, hji60⟩ : ∃ j_ : Int, (shr .u32 (Go.bits .or .u32 t136 t140) (ji58)) = j_ := ⟨_, rfl⟩
         replace H : (if (Go.bits .and .u32 (ji60) 1) = 1 then (some false) else (imprimaturlaw07_EnterSelf.l0 k2 t115 t118 t136 t140 (t101.length : Int) (wrap64 (x77_2 + 1)) t101 t104)) = some r := by first | (rw [hji60] at H; exact H) | (simp only [hji60] at H ⊢; exact H)
         have hji60_ : ((Go.bits .or .u32 t136 t140) / 2 ^ min (ji58).toNat 32) = ji60 := hji60
         have hji60z : (ji58) ≤ 32 → ((Go.bits .or .u32 t136 t140) / 2 ^ (ji58).toNat) = ji60 := shr_small hji60
         by_cases c61 : (Go.bits .and .u32 (ji60) 1) = 1
         ·rw [if_pos c61] at H
          have c61b0 : ((Go.bits .and .u32 (ji60) 1) == 1) = true := beq_iff_eq.mpr c61
          have c61b1 : ((Go.bits .and .u32 (ji60) 1) != 1) = false := bne_eq_false_iff_eq.mpr c61
          clear c61
          obtain rfl := Option.some.inj H
          go_wp2
          go_ret
          exact ⟨by first | rfl | (simp [errW_none, errW_some] <;> rfl) | (simp only [← hji58, ← hji60]; first | rfl | (simp [errW_none, errW_some] <;> rfl)) | (simp [*, errW_none, errW_some] <;> rfl), by repeat (first | (with_reducible first | exact HB.out | apply below_alloc | apply pw_below_drewN | apply below_drew1 | refine below_set ?_ GE113.out | refine below_set ?_ GE114.out) | exact HB.out)⟩
         ·rw [if_neg c61] at H
          have c61b0 : ((Go.bits .and .u32 (ji60) 1) == 1) = false := beq_eq_false_iff_ne.mpr c61
          have c61b1 : ((Go.bits .and .u32 (ji60) 1) != 1) = true := bne_iff_ne.mpr c61
          have H' := Aside0.mk H
          clear H
          go_wp2
          go_roundg k2
          case measure => have := HJ10.out; have := HK2.out; omega
          case rel => exact ⟨(wrap64 (x77_2 + 1)), (by first | rfl | (simp; done) | (simp [*]; done)), (by first | exact H' | exact ⟨by simp only [hji58, hji60]; exact H'.out⟩), ⟨by have := HJ10.out; have := HK2.out; omega⟩, ⟨by (with_reducible repeat (first | apply Kd.R_alloc | apply Kd.R_drewN | apply Kd.R_drew)); exact HO_114000.out⟩, ⟨by (with_reducible repeat (first | apply Kd.R_alloc | apply Kd.R_drewN | apply Kd.R_drew)); exact HO_114001.out⟩, ⟨by (with_reducible repeat (first | apply Kd.R_alloc | apply Kd.R_drewN | apply Kd.R_drew)); exact HO_115000.out⟩, ⟨by (with_reducible repeat (first | apply Kd.R_alloc | apply Kd.R_drewN | apply Kd.R_drew)); exact HO_115001.out⟩, ⟨by (with_reducible repeat (first | refine blk_drewN ?_ _ | refine blk_drew ?_ | refine blk_alloc ?_ _)); exact BK113.out⟩, ⟨by (with_reducible repeat (first | refine blk_drewN ?_ _ | refine blk_drew ?_ | refine blk_alloc ?_ _)); exact BK114.out⟩, ⟨by repeat (first | (with_reducible first | exact HB.out | apply below_alloc | apply pw_below_drewN | apply below_drew1 | refine below_set ?_ GE113.out | refine below_set ?_ GE114.out) | exact HB.out)⟩⟩
        ·rw [if_neg c59] at H
         exact absurd H (by simp)
       ·rw [if_neg c57] at H
        have c57b0 : (x77_2 == t118) = false := beq_eq_false_iff_ne.mpr c57
        have c57b1 : (x77_2 != t118) = true := bne_iff_ne.mpr c57
        replace H := Option.bind_eq_some_iff.mp H
        obtain ⟨t141, A620, H⟩ := H
        replace H : (if t141 = true then (imprimaturlaw07_EnterSelf.l0 k2 t115 t118 t136 t140 (t101.length : Int) (wrap64 (x77_2 + 1)) t101 t104) else (if 0 ≤ (IntKind.u64.wrap (x77_2)) then (if (Go.bits .and .u32 (shr .u32 (Go.bits .or .u32 t136 t140) (IntKind.u64.wrap (x77_2))) 1) = 1 then (some false) else (imprimaturlaw07_EnterSelf.l0 k2 t115 t118 t136 t140 (t101.length : Int) (wrap64 (x77_2 + 1)) t101 t104)) else (none))) = some r := H
        have A62 := Aside0.mk A620
        clear A620
        by_cases c63 : t141 = true
        ·subst c63
         have H1 : (imprimaturlaw07_EnterSelf.l0 k2 t115 t118 t136 t140 (t101.length : Int) (wrap64 (x77_2 + 1)) t101 t104) = some r := by rw [if_pos rfl] at H; exact H
         clear H
         have H := H1
         clear H1
         have H' := Aside0.mk H
         clear H
         have hnb64 := NB113_114.out
         have hnc64 := NB114_113.out
         have hcz65_0 : wr.cell? ⟨gb113, 0, none⟩ = some (.slice Ao15 t101.length co15) := (blk_cell BK113.out 0).trans rfl
         have hcz65_1 : wr.cell? ⟨gb113, 1, none⟩ = some (.slice Ao18 t104.length co18) := (blk_cell BK113.out 1).trans rfl
         have hfz65_0 := blk_frozen BK113.out 0
         have hfz65_1 := blk_frozen BK113.out 1
         go_wp2_with (first | (go_at_call 27; (with_reducible refine (shape_Under.calls k2 _ _ t101 _ _ t104 x77_2 t118 true _ ?side1 ?side2 ?side3 ?side4 A62.out).mono ?_); (case side1 => repeat (first | exact (Kd.R_reads' HO_114000.out).2.2 | (with_reducible refine Kd.C_alloc ?_ _) | (with_reducible refine Kd.C_drewN ?_ _) | (with_reducible refine Kd.C_drew ?_))); (case side2 => exact (Kd.R_reads' HO_114000.out).2.1); (case side3 => repeat (first | exact (Kd.R_reads' HO_114001.out).2.2 | (with_reducible refine Kd.C_alloc ?_ _) | (with_reducible refine Kd.C_drewN ?_ _) | (with_reducible refine Kd.C_drew ?_))); (case side4 => exact (Kd.R_reads' HO_114001.out).2.1); rintro e w66 ⟨rfl, hb⟩; have n0_ := Aside0.mk (Kd.R_below (by (with_reducible repeat (first | apply Kd.R_alloc | apply Kd.R_drewN | apply Kd.R_drew)); exact HO_114000.out) hb); have n1_ := Aside0.mk (Kd.R_below (by (with_reducible repeat (first | apply Kd.R_alloc | apply Kd.R_drewN | apply Kd.R_drew)); exact HO_114001.out) hb); have n2_ := Aside0.mk (Kd.R_below (by (with_reducible repeat (first | apply Kd.R_alloc | apply Kd.R_drewN | apply Kd.R_drew)); exact HO_115000.out) hb); have n3_ := Aside0.mk (Kd.R_below (by (with_reducible repeat (first | apply Kd.R_alloc | apply Kd.R_drewN | apply Kd.R_drew)); exact HO_115001.out) hb); have n4_ := Aside0.mk (blk_below (g := gb113) (o := .cells #[.slice Ao15 t101.length co15, .slice Ao18 t104.length co18] 24 (0, 0)) (by (with_reducible repeat (first | refine blk_drewN ?_ _ | refine blk_drew ?_ | refine blk_alloc ?_ _)); exact BK113.out) hb); have n5_ := Aside0.mk (blk_below (g := gb114) (o := .cells #[.slice Ao19 t107.length co19, .slice Ao21 t110.length co21] 25 (0, 0)) (by (with_reducible repeat (first | refine blk_drewN ?_ _ | refine blk_drew ?_ | refine blk_alloc ?_ _)); exact BK114.out) hb); have n6_ := Aside0.mk (below_step (by repeat (first | (with_reducible first | exact HB.out | apply below_alloc | apply pw_below_drewN | apply below_drew1 | refine below_set ?_ GE113.out | refine below_set ?_ GE114.out) | exact HB.out)) hb); clear HO_114000; clear HO_114001; clear HO_115000; clear HO_115001; clear BK113; clear BK114; clear HB; have HO_114000 := n0_; have HO_114001 := n1_; have HO_115000 := n2_; have HO_115001 := n3_; have BK113 := n4_; have BK114 := n5_; have HB := n6_; clear n0_ n1_ n2_ n3_ n4_ n5_ n6_; (try clear hb); (try clear hb2); (try clear hk); (try clear hi)))
         go_roundg k2
         case measure => have := HJ10.out; have := HK2.out; omega
         case rel => exact ⟨(wrap64 (x77_2 + 1)), (by first | rfl | (simp; done) | (simp [*]; done)), H', ⟨by have := HJ10.out; have := HK2.out; omega⟩, ⟨by (with_reducible repeat (first | apply Kd.R_alloc | apply Kd.R_drewN | apply Kd.R_drew)); exact HO_114000.out⟩, ⟨by (with_reducible repeat (first | apply Kd.R_alloc | apply Kd.R_drewN | apply Kd.R_drew)); exact HO_114001.out⟩, ⟨by (with_reducible repeat (first | apply Kd.R_alloc | apply Kd.R_drewN | apply Kd.R_drew)); exact HO_115000.out⟩, ⟨by (with_reducible repeat (first | apply Kd.R_alloc | apply Kd.R_drewN | apply Kd.R_drew)); exact HO_115001.out⟩, ⟨by (with_reducible repeat (first | refine blk_drewN ?_ _ | refine blk_drew ?_ | refine blk_alloc ?_ _)); exact BK113.out⟩, ⟨by (with_reducible repeat (first | refine blk_drewN ?_ _ | refine blk_drew ?_ | refine blk_alloc ?_ _)); exact BK114.out⟩, ⟨by repeat (first | (with_reducible first | exact HB.out | apply below_alloc | apply pw_below_drewN | apply below_drew1 | refine below_set ?_ GE113.out | refine below_set ?_ GE114.out) | exact HB.out)⟩⟩
        ·replace c63 := Bool.eq_false_iff.mpr c63
         subst c63
         have H1 : (if 0 ≤ (IntKind.u64.wrap (x77_2)) then (if (Go.bits .and .u32 (shr .u32 (Go.bits .or .u32 t136 t140) (IntKind.u64.wrap (x77_2))) 1) = 1 then (some false) else (imprimaturlaw07_EnterSelf.l0 k2 t115 t118 t136 t140 (t101.length : Int) (wrap64 (x77_2 + 1)) t101 t104)) else (none)) = some r := by rw [if_neg (show ¬ (false = true) by decide)] at H; exact H
         clear H
         have H := H1
         clear H1
         obtain ⟨ji67, hji67⟩ : ∃ j_ : Int, (IntKind.u64.wrap (x77_2)) = j_ := ⟨_, rfl⟩
         replace H : (if 0 ≤ (ji67) then (if (Go.bits .and .u32 (shr .u32 (Go.bits .or .u32 t136 t140) (ji67)) 1) = 1 then (some false) else (imprimaturlaw07_EnterSelf.l0 k2 t115 t118 t136 t140 (t101.length : Int) (wrap64 (x77_2 + 1)) t101 t104)) else (none)) = some r := by first | (rw [hji67] at H; exact H) | (simp only [hji67] at H ⊢; exact H)
         (try rw [hji67] at A62)
         by_cases c68 : 0 ≤ (ji67)
         ·rw [if_pos c68] at H
          have c68b0 := eq_true c68
          have c68b1 : decide (0 ≤ (ji67)) = true := decide_eq_true c68
          clear c68
          obtain ⟨ji69, hji69⟩ : ∃ j_ : Int, (shr .u32 (Go.bits .or .u32 t136 t140) (ji67)) = j_ := ⟨_, rfl⟩
          replace H : (if (Go.bits .and .u32 (ji69) 1) = 1 then (some false) else (imprimaturlaw07_EnterSelf.l0 k2 t115 t118 t136 t140 (t101.length : Int) (wrap64 (x77_2 + 1)) t101 t104)) = some r := by first | (rw [hji69] at H; exact H) | (simp only [hji69] at H ⊢; exact H)
          (try rw [hji69] at A62)
          have hji69_ : ((Go.bits .or .u32 t136 t140) / 2 ^ min (ji67).toNat 32) = ji69 := hji69
          have hji69z : (ji67) ≤ 32 → ((Go.bits .or .u32 t136 t140) / 2 ^ (ji67).toNat) = ji69 := shr_small hji69
          by_cases c70 : (Go.bits .and .u32 (ji69) 1) = 1
          ·rw [if_pos c70] at H
           have c70b0 : ((Go.bits .and .u32 (ji69) 1) == 1) = true := beq_iff_eq.mpr c70
           have c70b1 : ((Go.bits .and .u32 (ji69) 1) != 1) = false := bne_eq_false_iff_eq.mpr c70
           clear c70
           obtain rfl := Option.some.inj H
           have hnb71 := NB113_114.out
           have hnc71 := NB114_113.out
           have hcz72_0 : wr.cell? ⟨gb113, 0, none⟩ = some (.slice Ao15 t101.length co15) := (blk_cell BK113.out 0).trans rfl
           have hcz72_1 : wr.cell? ⟨gb113, 1, none⟩ = some (.slice Ao18 t104.length co18) := (blk_cell BK113.out 1).trans rfl
           have hfz72_0 := blk_frozen BK113.out 0
           have hfz72_1 := blk_frozen BK113.out 1
           go_wp2_with (first | (go_at_call 27; (with_reducible refine (shape_Under.calls k2 _ _ t101 _ _ t104 x77_2 t118 false _ ?side1 ?side2 ?side3 ?side4 A62.out).mono ?_); (case side1 => repeat (first | exact (Kd.R_reads' HO_114000.out).2.2 | (with_reducible refine Kd.C_alloc ?_ _) | (with_reducible refine Kd.C_drewN ?_ _) | (with_reducible refine Kd.C_drew ?_))); (case side2 => exact (Kd.R_reads' HO_114000.out).2.1); (case side3 => repeat (first | exact (Kd.R_reads' HO_114001.out).2.2 | (with_reducible refine Kd.C_alloc ?_ _) | (with_reducible refine Kd.C_drewN ?_ _) | (with_reducible refine Kd.C_drew ?_))); (case side4 => exact (Kd.R_reads' HO_114001.out).2.1); rintro e w73 ⟨rfl, hb⟩; have n0_ := Aside0.mk (Kd.R_below (by (with_reducible repeat (first | apply Kd.R_alloc | apply Kd.R_drewN | apply Kd.R_drew)); exact HO_114000.out) hb); have n1_ := Aside0.mk (Kd.R_below (by (with_reducible repeat (first | apply Kd.R_alloc | apply Kd.R_drewN | apply Kd.R_drew)); exact HO_114001.out) hb); have n2_ := Aside0.mk (Kd.R_below (by (with_reducible repeat (first | apply Kd.R_alloc | apply Kd.R_drewN | apply Kd.R_drew)); exact HO_115000.out) hb); have n3_ := Aside0.mk (Kd.R_below (by (with_reducible repeat (first | apply Kd.R_alloc | apply Kd.R_drewN | apply Kd.R_drew)); exact HO_115001.out) hb); have n4_ := Aside0.mk (blk_below (g := gb113) (o := .cells #[.slice Ao15 t101.length co15, .slice Ao18 t104.length co18] 24 (0, 0)) (by (with_reducible repeat (first | refine blk_drewN ?_ _ | refine blk_drew ?_ | refine blk_alloc ?_ _)); exact BK113.out) hb); have n5_ := Aside0.mk (blk_below (g := gb114) (o := .cells #[.slice Ao19 t107.length co19, .slice Ao21 t110.length co21] 25 (0, 0)) (by (with_reducible repeat (first | refine blk_drewN ?_ _ | refine blk_drew ?_ | refine blk_alloc ?_ _)); exact BK114.out) hb); have n6_ := Aside0.mk (below_step (by repeat (first | (with_reducible first | exact HB.out | apply below_alloc | apply pw_below_drewN | apply below_drew1 | refine below_set ?_ GE113.out | refine below_set ?_ GE114.out) | exact HB.out)) hb); clear HO_114000; clear HO_114001; clear HO_115000; clear HO_115001; clear BK113; clear BK114; clear HB; have HO_114000 := n0_; have HO_114001 := n1_; have HO_115000 := n2_; have HO_115001 := n3_; have BK113 := n4_; have BK114 := n5_; have HB := n6_; clear n0_ n1_ n2_ n3_ n4_ n5_ n6_; (try clear hb); (try clear hb2); (try clear hk); (try clear hi)))
           go_ret
           exact ⟨by first | rfl | (simp [errW_none, errW_some] <;> rfl) | (simp only [← hji67, ← hji69]; first | rfl | (simp [errW_none, errW_some] <;> rfl)) | (simp [*, errW_none, errW_some] <;> rfl), by repeat (first | (with_reducible first | exact HB.out | apply below_alloc | apply pw_below_drewN | apply below_drew1 | refine below_set ?_ GE113.out | refine below_set ?_ GE114.out) | exact HB.out)⟩
          ·rw [if_neg c70] at H
           have c70b0 : ((Go.bits .and .u32 (ji69) 1) == 1) = false := beq_eq_false_iff_ne.mpr c70
           have c70b1 : ((Go.bits .and .u32 (ji69) 1) != 1) = true := bne_iff_ne.mpr c70
           have H' := Aside0.mk H
           clear H
           have hnb74 := NB113_114.out
           have hnc74 := NB114_113.out
           have hcz75_0 : wr.cell? ⟨gb113, 0, none⟩ = some (.slice Ao15 t101.length co15) := (blk_cell BK113.out 0).trans rfl
           have hcz75_1 : wr.cell? ⟨gb113, 1, none⟩ = some (.slice Ao18 t104.length co18) := (blk_cell BK113.out 1).trans rfl
           have hfz75_0 := blk_frozen BK113.out 0
           have hfz75_1 := blk_frozen BK113.out 1
           go_wp2_with (first | (go_at_call 27; (with_reducible refine (shape_Under.calls k2 _ _ t101 _ _ t104 x77_2 t118 false _ ?side1 ?side2 ?side3 ?side4 A62.out).mono ?_); (case side1 => repeat (first | exact (Kd.R_reads' HO_114000.out).2.2 | (with_reducible refine Kd.C_alloc ?_ _) | (with_reducible refine Kd.C_drewN ?_ _) | (with_reducible refine Kd.C_drew ?_))); (case side2 => exact (Kd.R_reads' HO_114000.out).2.1); (case side3 => repeat (first | exact (Kd.R_reads' HO_114001.out).2.2 | (with_reducible refine Kd.C_alloc ?_ _) | (with_reducible refine Kd.C_drewN ?_ _) | (with_reducible refine Kd.C_drew ?_))); (case side4 => exact (Kd.R_reads' HO_114001.out).2.1); rintro e w76 ⟨rfl, hb⟩; have n0_ := Aside0.mk (Kd.R_below (by (with_reducible repeat (first | apply Kd.R_alloc | apply Kd.R_drewN | apply Kd.R_drew)); exact HO_114000.out) hb); have n1_ := Aside0.mk (Kd.R_below (by (with_reducible repeat (first | apply Kd.R_alloc | apply Kd.R_drewN | apply Kd.R_drew)); exact HO_114001.out) hb); have n2_ := Aside0.mk (Kd.R_below (by (with_reducible repeat (first | apply Kd.R_alloc | apply Kd.R_drewN | apply Kd.R_drew)); exact HO_115000.out) hb); have n3_ := Aside0.mk (Kd.R_below (by (with_reducible repeat (first | apply Kd.R_alloc | apply Kd.R_drewN | apply Kd.R_drew)); exact HO_115001.out) hb); have n4_ := Aside0.mk (blk_below (g := gb113) (o := .cells #[.slice Ao15 t101.length co15, .slice Ao18 t104.length co18] 24 (0, 0)) (by (with_reducible repeat (first | refine blk_drewN ?_ _ | refine blk_drew ?_ | refine blk_alloc ?_ _)); exact BK113.out) hb); have n5_ := Aside0.mk (blk_below (g := gb114) (o := .cells #[.slice Ao19 t107.length co19, .slice Ao21 t110.length co21] 25 (0, 0)) (by (with_reducible repeat (first | refine blk_drewN ?_ _ | refine blk_drew ?_ | refine blk_alloc ?_ _)); exact BK114.out) hb); have n6_ := Aside0.mk (below_step (by repeat (first | (with_reducible first | exact HB.out | apply below_alloc | apply pw_below_drewN | apply below_drew1 | refine below_set ?_ GE113.out | refine below_set ?_ GE114.out) | exact HB.out)) hb); clear HO_114000; clear HO_114001; clear HO_115000; clear HO_115001; clear BK113; clear BK114; clear HB; have HO_114000 := n0_; have HO_114001 := n1_; have HO_115000 := n2_; have HO_115001 := n3_; have BK113 := n4_; have BK114 := n5_; have HB := n6_; clear n0_ n1_ n2_ n3_ n4_ n5_ n6_; (try clear hb); (try clear hb2); (try clear hk); (try clear hi)))
           go_roundg k2
           case measure => have := HJ10.out; have := HK2.out; omega
           case rel => exact ⟨(wrap64 (x77_2 + 1)), (by first | rfl | (simp; done) | (simp [*]; done)), (by first | exact H' | exact ⟨by simp only [hji67, hji69]; exact H'.out⟩), ⟨by have := HJ10.out; have := HK2.out; omega⟩, ⟨by (with_reducible repeat (first | apply Kd.R_alloc | apply Kd.R_drewN | apply Kd.R_drew)); exact HO_114000.out⟩, ⟨by (with_reducible repeat (first | apply Kd.R_alloc | apply Kd.R_drewN | apply Kd.R_drew)); exact HO_114001.out⟩, ⟨by (with_reducible repeat (first | apply Kd.R_alloc | apply Kd.R_drewN | apply Kd.R_drew)); exact HO_115000.out⟩, ⟨by (with_reducible repeat (first | apply Kd.R_alloc | apply Kd.R_drewN | apply Kd.R_drew)); exact HO_115001.out⟩, ⟨by (with_reducible repeat (first | refine blk_drewN ?_ _ | refine blk_drew ?_ | refine blk_alloc ?_ _)); exact BK113.out⟩, ⟨by (with_reducible repeat (first | refine blk_drewN ?_ _ | refine blk_drew ?_ | refine blk_alloc ?_ _)); exact BK114.out⟩, ⟨by repeat (first | (with_reducible first | exact HB.out | apply below_alloc | apply pw_below_drewN | apply below_drew1 | refine below_set ?_ GE113.out | refine below_set ?_ GE114.out) | exact HB.out)⟩⟩
         ·rw [if_neg c68] at H
          exact absurd H (by simp)
      ·rw [if_neg c56] at H
       have c56b0 : decide (x77_2 < (t101.length : Int)) = false := decide_eq_false c56
       clear c56
       by_cases c77 : t140 = (Go.bits .and .u32 t140 t115)
       ·rw [if_pos c77] at H
        have c77b0 : (t140 == (Go.bits .and .u32 t140 t115)) = true := beq_iff_eq.mpr c77
        have c77b1 : (t140 != (Go.bits .and .u32 t140 t115)) = false := bne_eq_false_iff_eq.mpr c77
        clear c77
        replace H := Option.bind_eq_some_iff.mp H
        obtain ⟨t142, A780, H⟩ := H
        replace H : ((imprimaturlaw07_bits.f k2 t142).bind fun t145 => (if t145 = t115 then ((imprimaturlaw07_wakes.f k2).bind fun t146 => (some t146)) else (some false))) = some r := H
        have A78 := Aside0.mk A780
        clear A780
        replace H := Option.bind_eq_some_iff.mp H
        obtain ⟨t145, A790, H⟩ := H
        replace H : (if t145 = t115 then ((imprimaturlaw07_wakes.f k2).bind fun t146 => (some t146)) else (some false)) = some r := H
        have A79 := Aside0.mk A790
        clear A790
        by_cases c80 : t145 = t115
        ·rw [if_pos c80] at H
         have c80b0 : (t145 == t115) = true := beq_iff_eq.mpr c80
         have c80b1 : (t145 != t115) = false := bne_eq_false_iff_eq.mpr c80
         clear c80
         replace H := Option.bind_eq_some_iff.mp H
         obtain ⟨t146, A810, H⟩ := H
         replace H : (some t146) = some r := H
         have A81 := Aside0.mk A810
         clear A810
         obtain rfl := Option.some.inj H
         have hnb82 := NB113_114.out
         have hnc82 := NB114_113.out
         have hcz83_0 : wr.cell? ⟨gb113, 0, none⟩ = some (.slice Ao15 t101.length co15) := (blk_cell BK113.out 0).trans rfl
         have hcz83_1 : wr.cell? ⟨gb113, 1, none⟩ = some (.slice Ao18 t104.length co18) := (blk_cell BK113.out 1).trans rfl
         have hfz83_0 := blk_frozen BK113.out 0
         have hfz83_1 := blk_frozen BK113.out 1
         go_wp2_with (first | (go_at_call 23; (with_reducible refine (enter_Leave.calls k2 _ _ t101 _ _ t104 t115 (-1) t142 _ ?side1 ?side2 ?side3 ?side4 A78.out).mono ?_); (case side1 => repeat (first | exact (Kd.R_reads' HO_114000.out).2.2 | (with_reducible refine Kd.C_alloc ?_ _) | (with_reducible refine Kd.C_drewN ?_ _) | (with_reducible refine Kd.C_drew ?_))); (case side2 => exact (Kd.R_reads' HO_114000.out).2.1); (case side3 => repeat (first | exact (Kd.R_reads' HO_114001.out).2.2 | (with_reducible refine Kd.C_alloc ?_ _) | (with_reducible refine Kd.C_drewN ?_ _) | (with_reducible refine Kd.C_drew ?_))); (case side4 => exact (Kd.R_reads' HO_114001.out).2.1); rintro e w84 ⟨v143, rfl, ho0, hb⟩; have n0_ := Aside0.mk (Kd.R_elder' (by (with_reducible repeat (first | apply Kd.R_alloc | apply Kd.R_drewN | apply Kd.R_drew)); exact HO_114000.out) (Kd.R_base ho0) hb); have n1_ := Aside0.mk (Kd.R_elder' (by (with_reducible repeat (first | apply Kd.R_alloc | apply Kd.R_drewN | apply Kd.R_drew)); exact HO_114001.out) (Kd.R_base ho0) hb); have n2_ := Aside0.mk (Kd.R_elder' (by (with_reducible repeat (first | apply Kd.R_alloc | apply Kd.R_drewN | apply Kd.R_drew)); exact HO_115000.out) (Kd.R_base ho0) hb); have n3_ := Aside0.mk (Kd.R_elder' (by (with_reducible repeat (first | apply Kd.R_alloc | apply Kd.R_drewN | apply Kd.R_drew)); exact HO_115001.out) (Kd.R_base ho0) hb); have n4_ := Aside0.mk (Kd.R_lower (Kd.R_new' (Kd.R_new' (Kd.R_new' (Kd.R_new' ho0 (Kd.R_lt (by (with_reducible repeat (first | apply Kd.R_alloc | apply Kd.R_drewN | apply Kd.R_drew)); exact HO_114000.out))) (Kd.R_lt (by (with_reducible repeat (first | apply Kd.R_alloc | apply Kd.R_drewN | apply Kd.R_drew)); exact HO_114001.out))) (Kd.R_lt (by (with_reducible repeat (first | apply Kd.R_alloc | apply Kd.R_drewN | apply Kd.R_drew)); exact HO_115000.out))) (Kd.R_lt (by (with_reducible repeat (first | apply Kd.R_alloc | apply Kd.R_drewN | apply Kd.R_drew)); exact HO_115001.out))) (below_size (by repeat (first | (with_reducible first | exact HB.out | apply below_alloc | apply pw_below_drewN | apply below_drew1 | refine below_set ?_ GE113.out | refine below_set ?_ GE114.out) | exact HB.out)))); have n5_ := Aside0.mk (blk_below (g := gb113) (o := .cells #[.slice Ao15 t101.length co15, .slice Ao18 t104.length co18] 24 (0, 0)) (by (with_reducible repeat (first | refine blk_drewN ?_ _ | refine blk_drew ?_ | refine blk_alloc ?_ _)); exact BK113.out) hb); have n6_ := Aside0.mk (blk_below (g := gb114) (o := .cells #[.slice Ao19 t107.length co19, .slice Ao21 t110.length co21] 25 (0, 0)) (by (with_reducible repeat (first | refine blk_drewN ?_ _ | refine blk_drew ?_ | refine blk_alloc ?_ _)); exact BK114.out) hb); have n7_ := Aside0.mk (below_step (by repeat (first | (with_reducible first | exact HB.out | apply below_alloc | apply pw_below_drewN | apply below_drew1 | refine below_set ?_ GE113.out | refine below_set ?_ GE114.out) | exact HB.out)) hb); clear HO_114000; clear HO_114001; clear HO_115000; clear HO_115001; clear BK113; clear BK114; clear HB; have HO_114000 := n0_; have HO_114001 := n1_; have HO_115000 := n2_; have HO_115001 := n3_; have HO144 := n4_; have BK113 := n5_; have BK114 := n6_; have HB := n7_; clear n0_ n1_ n2_ n3_ n4_ n5_ n6_ n7_; (try clear hb); (try clear hb2); (try clear hk); (try clear hi); (try clear ho0); obtain ⟨Ao85, co85, eo85⟩ := Kd.R_slice HO144.out; subst eo85) | (go_at_call 26; (with_reducible refine (imprimaturlaw07_bits.calls k2 _ _ t142 t145 _ ?side1 ?side2 A79.out).mono ?_); (case side1 => repeat (first | exact (Kd.R_reads' HO144.out).2.2 | (with_reducible refine Kd.C_alloc ?_ _) | (with_reducible refine Kd.C_drewN ?_ _) | (with_reducible refine Kd.C_drew ?_))); (case side2 => exact (Kd.R_reads' HO144.out).2.1); rintro e w' ⟨rfl, ⟨nd, rfl⟩⟩) | (go_at_call 28; (with_reducible refine (imprimaturlaw07_wakes.calls k2  t146 _ A81.out).mono ?_); rintro e w86 ⟨rfl, hb⟩; have n0_ := Aside0.mk (Kd.R_below (by (with_reducible repeat (first | apply Kd.R_alloc | apply Kd.R_drewN | apply Kd.R_drew)); exact HO_114000.out) hb); have n1_ := Aside0.mk (Kd.R_below (by (with_reducible repeat (first | apply Kd.R_alloc | apply Kd.R_drewN | apply Kd.R_drew)); exact HO_114001.out) hb); have n2_ := Aside0.mk (Kd.R_below (by (with_reducible repeat (first | apply Kd.R_alloc | apply Kd.R_drewN | apply Kd.R_drew)); exact HO_115000.out) hb); have n3_ := Aside0.mk (Kd.R_below (by (with_reducible repeat (first | apply Kd.R_alloc | apply Kd.R_drewN | apply Kd.R_drew)); exact HO_115001.out) hb); have n4_ := Aside0.mk (Kd.R_below (by (with_reducible repeat (first | apply Kd.R_alloc | apply Kd.R_drewN | apply Kd.R_drew)); exact HO144.out) hb); have n5_ := Aside0.mk (blk_below (g := gb113) (o := .cells #[.slice Ao15 t101.length co15, .slice Ao18 t104.length co18] 24 (0, 0)) (by (with_reducible repeat (first | refine blk_drewN ?_ _ | refine blk_drew ?_ | refine blk_alloc ?_ _)); exact BK113.out) hb); have n6_ := Aside0.mk (blk_below (g := gb114) (o := .cells #[.slice Ao19 t107.length co19, .slice Ao21 t110.length co21] 25 (0, 0)) (by (with_reducible repeat (first | refine blk_drewN ?_ _ | refine blk_drew ?_ | refine blk_alloc ?_ _)); exact BK114.out) hb); have n7_ := Aside0.mk (below_step (by repeat (first | (with_reducible first | exact HB.out | apply below_alloc | apply pw_below_drewN | apply below_drew1 | refine below_set ?_ GE113.out | refine below_set ?_ GE114.out) | exact HB.out)) hb); clear HO_114000; clear HO_114001; clear HO_115000; clear HO_115001; clear HO144; clear BK113; clear BK114; clear HB; have HO_114000 := n0_; have HO_114001 := n1_; have HO_115000 := n2_; have HO_115001 := n3_; have HO144 := n4_; have BK113 := n5_; have BK114 := n6_; have HB := n7_; clear n0_ n1_ n2_ n3_ n4_ n5_ n6_ n7_; (try clear hb); (try clear hb2); (try clear hk); (try clear hi)))
         go_ret
         exact ⟨by first | rfl | (simp [errW_none, errW_some] <;> rfl) | (simp [*, errW_none, errW_some] <;> rfl), by repeat (first | (with_reducible first | exact HB.out | apply below_alloc | apply pw_below_drewN | apply below_drew1 | refine below_set ?_ GE113.out | refine below_set ?_ GE114.out) | exact HB.out)⟩
        ·rw [if_neg c80] at H
         have c80b0 : (t145 == t115) = false := beq_eq_false_iff_ne.mpr c80
         have c80b1 : (t145 != t115) = true := bne_iff_ne.mpr c80
         obtain rfl := Option.some.inj H
         have hnb87 := NB113_114.out
         have hnc87 := NB114_113.out
         have hcz88_0 : wr.cell? ⟨gb113, 0, none⟩ = some (.slice Ao15 t101.length co15) := (blk_cell BK113.out 0).trans rfl
         have hcz88_1 : wr.cell? ⟨gb113, 1, none⟩ = some (.slice Ao18 t104.length co18) := (blk_cell BK113.out 1).trans rfl
         have hfz88_0 := blk_frozen BK113.out 0
         have hfz88_1 := blk_frozen BK113.out 1
         go_wp2_with (first | (go_at_call 23; (with_reducible refine (enter_Leave.calls k2 _ _ t101 _ _ t104 t115 (-1) t142 _ ?side1 ?side2 ?side3 ?side4 A78.out).mono ?_); (case side1 => repeat (first | exact (Kd.R_reads' HO_114000.out).2.2 | (with_reducible refine Kd.C_alloc ?_ _) | (with_reducible refine Kd.C_drewN ?_ _) | (with_reducible refine Kd.C_drew ?_))); (case side2 => exact (Kd.R_reads' HO_114000.out).2.1); (case side3 => repeat (first | exact (Kd.R_reads' HO_114001.out).2.2 | (with_reducible refine Kd.C_alloc ?_ _) | (with_reducible refine Kd.C_drewN ?_ _) | (with_reducible refine Kd.C_drew ?_))); (case side4 => exact (Kd.R_reads' HO_114001.out).2.1); rintro e w89 ⟨v143, rfl, ho0, hb⟩; have n0_ := Aside0.mk (Kd.R_elder' (by (with_reducible repeat (first | apply Kd.R_alloc | apply Kd.R_drewN | apply Kd.R_drew)); exact HO_114000.out) (Kd.R_base ho0) hb); have n1_ := Aside0.mk (Kd.R_elder' (by (with_reducible repeat (first | apply Kd.R_alloc | apply Kd.R_drewN | apply Kd.R_drew)); exact HO_114001.out) (Kd.R_base ho0) hb); have n2_ := Aside0.mk (Kd.R_elder' (by (with_reducible repeat (first | apply Kd.R_alloc | apply Kd.R_drewN | apply Kd.R_drew)); exact HO_115000.out) (Kd.R_base ho0) hb); have n3_ := Aside0.mk (Kd.R_elder' (by (with_reducible repeat (first | apply Kd.R_alloc | apply Kd.R_drewN | apply Kd.R_drew)); exact HO_115001.out) (Kd.R_base ho0) hb); have n4_ := Aside0.mk (Kd.R_lower (Kd.R_new' (Kd.R_new' (Kd.R_new' (Kd.R_new' ho0 (Kd.R_lt (by (with_reducible repeat (first | apply Kd.R_alloc | apply Kd.R_drewN | apply Kd.R_drew)); exact HO_114000.out))) (Kd.R_lt (by (with_reducible repeat (first | apply Kd.R_alloc | apply Kd.R_drewN | apply Kd.R_drew)); exact HO_114001.out))) (Kd.R_lt (by (with_reducible repeat (first | apply Kd.R_alloc | apply Kd.R_drewN | apply Kd.R_drew)); exact HO_115000.out))) (Kd.R_lt (by (with_reducible repeat (first | apply Kd.R_alloc | apply Kd.R_drewN | apply Kd.R_drew)); exact HO_115001.out))) (below_size (by repeat (first | (with_reducible first | exact HB.out | apply below_alloc | apply pw_below_drewN | apply below_drew1 | refine below_set ?_ GE113.out | refine below_set ?_ GE114.out) | exact HB.out)))); have n5_ := Aside0.mk (blk_below (g := gb113) (o := .cells #[.slice Ao15 t101.length co15, .slice Ao18 t104.length co18] 24 (0, 0)) (by (with_reducible repeat (first | refine blk_drewN ?_ _ | refine blk_drew ?_ | refine blk_alloc ?_ _)); exact BK113.out) hb); have n6_ := Aside0.mk (blk_below (g := gb114) (o := .cells #[.slice Ao19 t107.length co19, .slice Ao21 t110.length co21] 25 (0, 0)) (by (with_reducible repeat (first | refine blk_drewN ?_ _ | refine blk_drew ?_ | refine blk_alloc ?_ _)); exact BK114.out) hb); have n7_ := Aside0.mk (below_step (by repeat (first | (with_reducible first | exact HB.out | apply below_alloc | apply pw_below_drewN | apply below_drew1 | refine below_set ?_ GE113.out | refine below_set ?_ GE114.out) | exact HB.out)) hb); clear HO_114000; clear HO_114001; clear HO_115000; clear HO_115001; clear BK113; clear BK114; clear HB; have HO_114000 := n0_; have HO_114001 := n1_; have HO_115000 := n2_; have HO_115001 := n3_; have HO144 := n4_; have BK113 := n5_; have BK114 := n6_; have HB := n7_; clear n0_ n1_ n2_ n3_ n4_ n5_ n6_ n7_; (try clear hb); (try clear hb2); (try clear hk); (try clear hi); (try clear ho0); obtain ⟨Ao90, co90, eo90⟩ := Kd.R_slice HO144.out; subst eo90) | (go_at_call 26; (with_reducible refine (imprimaturlaw07_bits.calls k2 _ _ t142 t145 _ ?side1 ?side2 A79.out).mono ?_); (case side1 => repeat (first | exact (Kd.R_reads' HO144.out).2.2 | (with_reducible refine Kd.C_alloc ?_ _) | (with_reducible refine Kd.C_drewN ?_ _) | (with_reducible refine Kd.C_drew ?_))); (case side2 => exact (Kd.R_reads' HO144.out).2.1); rintro e w' ⟨rfl, ⟨nd, rfl⟩⟩))
         go_ret
         exact ⟨by first | rfl | (simp [errW_none, errW_some] <;> rfl) | (simp [*, errW_none, errW_some] <;> rfl), by repeat (first | (with_reducible first | exact HB.out | apply below_alloc | apply pw_below_drewN | apply below_drew1 | refine below_set ?_ GE113.out | refine below_set ?_ GE114.out) | exact HB.out)⟩
       ·rw [if_neg c77] at H
        have c77b0 : (t140 == (Go.bits .and .u32 t140 t115)) = false := beq_eq_false_iff_ne.mpr c77
        have c77b1 : (t140 != (Go.bits .and .u32 t140 t115)) = true := bne_iff_ne.mpr c77
        obtain rfl := Option.some.inj H
        go_wp2
        go_ret
        exact ⟨by first | rfl | (simp [errW_none, errW_some] <;> rfl) | (simp [*, errW_none, errW_some] <;> rfl), by repeat (first | (with_reducible first | exact HB.out | apply below_alloc | apply pw_below_drewN | apply below_drew1 | refine below_set ?_ GE113.out | refine below_set ?_ GE114.out) | exact HB.out)⟩
end Go.Proofs.Ytnomeokicfpidaa.Q
