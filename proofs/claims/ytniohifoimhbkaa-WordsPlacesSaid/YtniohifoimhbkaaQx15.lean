-- printed by myprint.py: a program of this repo over the kit's print
import Derived.Test.YtniohifoimhbkaaQx0
import Derived.Test.YtniohifoimhbkaaQx13
import Derived.Test.YtniohifoimhbkaaQx19
namespace Go.Proofs.Ytniohifoimhbkaa.Q
open Go.RowKit Go.Proofs.YtniohifoimhbkaaW.PrintWords Go.Proofs.YtniohifoimhbkaaW.PrintLast Go.Proofs.YtniohifoimhbkaaW.PrintMore
attribute [local go_sem] max2_int min2_int max_two min_two max_three min_three max_four min_four   -- for this text's walks alone
set_option linter.unusedVariables false
set_option linter.unusedSimpArgs false

attribute [local go_sem high] eqA28
/-! ### imprimaturlaw01_wakes: function 10 -/
def imprimaturlaw01_wakes.f (k : Nat)  : Option (Bool) := (words_Split.f k (⟨#[32, 97, 32, 32, 98, 35, 32, 99]⟩ : ByteArray)).bind fun bt101 => (if bt101.2 = 0 then (if (bt101.1.length : Int) = 2 then (if 0 < (bt101.1.length : Int) then (if ((((rd_T28 bt101.1 0).f0).toList) == ([97] : List UInt8) && (((rd_T28 bt101.1 0).f1) == 2)) = true then (if 1 < (bt101.1.length : Int) then (some ((((rd_T28 bt101.1 1).f0).toList) == ([98] : List UInt8) && (((rd_T28 bt101.1 1).f1) == 5))) else (none)) else (some false)) else (none)) else (some false)) else (some false))
theorem imprimaturlaw01_wakes.mono : ∀ k, LeO (imprimaturlaw01_wakes.f k ) (imprimaturlaw01_wakes.f (k + 1) ) := by
  intro  k
  unfold imprimaturlaw01_wakes.f
  repeat' first
      | (with_reducible exact words_Split.mono _ _)
      | (with_reducible exact LeO.refl _)
      | (with_reducible exact LeO.none _)
      | (with_reducible refine LeO.ite ?_ ?_)
      | (with_reducible refine LeO.bind ?_ (fun _ => ?_))
      | exact words_Split.mono _ _
      | exact LeO.none _
      | refine LeO.ite ?_ ?_
      | refine LeO.bind ?_ (fun _ => ?_)
set_option maxHeartbeats 8000000 in
set_option maxRecDepth 100000 in
theorem imprimaturlaw01_wakes.calls (k : Nat)  (r : Bool) (w : World) (h : imprimaturlaw01_wakes.f k  = some r) :
    Calls Try.prog 10 #[] w fun e w' => e = .returned (.bool r) ∧ Below w.heap.size w w' := by
  have hu28 := Try.underlying28
  have HB := Aside0.mk (Below.refl w.heap.size w)
  have H : ((words_Split.f k (⟨#[32, 97, 32, 32, 98, 35, 32, 99]⟩ : ByteArray)).bind fun bt101 => (if bt101.2 = 0 then (if (bt101.1.length : Int) = 2 then (if 0 < (bt101.1.length : Int) then (if ((((rd_T28 bt101.1 0).f0).toList) == ([97] : List UInt8) && (((rd_T28 bt101.1 0).f1) == 2)) = true then (if 1 < (bt101.1.length : Int) then (some ((((rd_T28 bt101.1 1).f0).toList) == ([98] : List UInt8) && (((rd_T28 bt101.1 1).f1) == 5))) else (none)) else (some false)) else (none)) else (some false)) else (some false))) = some r := h
  clear h
  replace H := Option.bind_eq_some_iff.mp H
  obtain ⟨⟨t101, t102⟩, A10, H⟩ := H
  replace H : (if t102 = 0 then (if (t101.length : Int) = 2 then (if 0 < (t101.length : Int) then (if ((((rd_T28 t101 0).f0).toList) == ([97] : List UInt8) && (((rd_T28 t101 0).f1) == 2)) = true then (if 1 < (t101.length : Int) then (some ((((rd_T28 t101 1).f0).toList) == ([98] : List UInt8) && (((rd_T28 t101 1).f1) == 5))) else (none)) else (some false)) else (none)) else (some false)) else (some false)) = some r := H
  have A1 := Aside0.mk A10
  clear A10
  by_cases c2 : t102 = 0
  · rw [if_pos c2] at H
    have c2b0 : (t102 == 0) = true := beq_iff_eq.mpr c2
    have c2b1 : (t102 != 0) = false := bne_eq_false_iff_eq.mpr c2
    clear c2
    by_cases c3 : (t101.length : Int) = 2
    · rw [if_pos c3] at H
      have c3b0 : ((t101.length : Int) == 2) = true := beq_iff_eq.mpr c3
      have c3b1 : ((t101.length : Int) != 2) = false := bne_eq_false_iff_eq.mpr c3
      clear c3
      by_cases c4 : 0 < (t101.length : Int)
      · rw [if_pos c4] at H
        have c4b0 : decide (0 < (t101.length : Int)) = true := decide_eq_true c4
        have c4b1 : decide (0 < t101.length) = true := decide_eq_true (by omega)
        clear c4
        by_cases c5 : ((((rd_T28 t101 0).f0).toList) == ([97] : List UInt8) && (((rd_T28 t101 0).f1) == 2)) = true
        · rw [if_pos c5] at H
          have c5b0 : ((((rd_T28 t101 0).f0).toList) == ([97] : List UInt8) && (((rd_T28 t101 0).f1) == 2)) = true := c5
          (try (have c5b1 : decide ((((rd_T28 t101 0).f0).toList) = ([97] : List UInt8) && (((rd_T28 t101 0).f1) == 2)) = true := by simpa using c5))
          (try (have c5b2 : ((((rd_T28 t101 0).f0).toList) == ([97] : List UInt8) && (((rd_T28 t101 0).f1) == 2)) = true := by simpa using c5))
          clear c5
          by_cases c6 : 1 < (t101.length : Int)
          · rw [if_pos c6] at H
            have c6b0 : decide (1 < (t101.length : Int)) = true := decide_eq_true c6
            have c6b1 : decide (1 < t101.length) = true := decide_eq_true (by omega)
            clear c6
            obtain rfl := Option.some.inj H
            go_enter Try.func10, Try.ntmps10
            go_wp2_with (first | ((with_reducible refine gate_callee (f := 8) rfl ?_); refine goesL_ (some 4) rfl rfl Try.func8 (by kernel_rfl) rfl #[.string (⟨#[32, 97, 32, 32, 98, 35, 32, 99]⟩ : ByteArray)] rfl (by (try simp only [List.map_toArray, List.map_cons, List.map_nil]); first | done | rfl | (simp only [List.length_drop, List.length_take]; rfl)) ?_; (with_reducible refine (words_Split.calls k (⟨#[32, 97, 32, 32, 98, 35, 32, 99]⟩ : ByteArray) t101 t102 _ A1.out).mono ?_); rintro e w7 ⟨v103, rfl, ho0, hb⟩; refine ⟨_, rfl, ?_⟩; have n0_ := Aside0.mk (Kd.R_lower ho0 (below_size (by repeat (first | (with_reducible first | exact HB.out | apply below_alloc | apply pw_below_drewN | apply below_drew1) | exact HB.out)))); have n1_ := Aside0.mk (below_step (by repeat (first | (with_reducible first | exact HB.out | apply below_alloc | apply pw_below_drewN | apply below_drew1) | exact HB.out)) hb); clear HB; have HO104 := n0_; have HB := n1_; clear n0_ n1_; (try clear hb); (try clear hb2); (try clear hk); (try clear hi); (try clear ho0); obtain ⟨Ao8, co8, eo8⟩ := Kd.R_slice HO104.out; subst eo8; have p105 : 0 ≤ (0 : Int) := (by omega); have q105 : 0 < (t101.length : Int) := of_decide_eq_true (by first | (with_reducible assumption) | assumption); obtain ⟨ad105, e105, hx105_0, hx105_1⟩ := at_T28 (Kd.R_reads' HO104.out).2.2 0 p105 q105; cases e105; have qi105 : (0 < t101.length) = True := eq_true (by omega); (try rw [show ((0 : Int)).toNat = 0 from rfl] at hx105_0); (try rw [show 0 * 2 = 0 from rfl] at hx105_0); (try rw [Addr.add_zero'] at hx105_0); (try rw [show ((0 : Int)).toNat = 0 from rfl] at hx105_1); (try rw [show 0 * 2 = 0 from rfl] at hx105_1); (try rw [Addr.add_zero'] at hx105_1); replace p105 := eq_true p105; replace q105 := eq_true q105; have p106 : 0 ≤ (1 : Int) := (by omega); have q106 : 1 < (t101.length : Int) := of_decide_eq_true (by first | (with_reducible assumption) | assumption); obtain ⟨ad106, e106, hx106_0, hx106_1⟩ := at_T28 (Kd.R_reads' HO104.out).2.2 1 p106 q106; obtain rfl : ad105 = ad106 := (by injection e106); (try simp only [show (1 : Int).toNat = 1 from rfl, Nat.reduceMul, Nat.reduceEqDiff, Go.Addr.add, ↓reduceIte] at hx106_0); (try simp only [show (1 : Int).toNat = 1 from rfl, Nat.reduceMul, Nat.reduceEqDiff, Go.Addr.add, ↓reduceIte] at hx106_1); have qi106 : (1 < t101.length) = True := eq_true (by omega); (try rw [show ((1 : Int)).toNat = 1 from rfl] at hx106_0); (try rw [show 1 * 2 = 2 from rfl] at hx106_0); (try rw [show ((1 : Int)).toNat = 1 from rfl] at hx106_1); (try rw [show 1 * 2 = 2 from rfl] at hx106_1); replace p106 := eq_true p106; replace q106 := eq_true q106))
            go_ret
            exact ⟨by first | rfl | (simp [errW_none, errW_some] <;> rfl) | (simp [*, errW_none, errW_some] <;> rfl), by repeat (first | (with_reducible first | exact HB.out | apply below_alloc | apply pw_below_drewN | apply below_drew1) | exact HB.out)⟩
          · rw [if_neg c6] at H
            exact absurd H (by simp)
        · rw [if_neg c5] at H
          have c5b0 : ((((rd_T28 t101 0).f0).toList) == ([97] : List UInt8) && (((rd_T28 t101 0).f1) == 2)) = false := by simpa using c5
          (try (have c5b1 : decide ((((rd_T28 t101 0).f0).toList) = ([97] : List UInt8) && (((rd_T28 t101 0).f1) == 2)) = false := by simpa using c5))
          (try (have c5b2 : ((((rd_T28 t101 0).f0).toList) == ([97] : List UInt8) && (((rd_T28 t101 0).f1) == 2)) = false := by simpa using c5))
          (try (have c5b3 : ¬ ((((rd_T28 t101 0).f0).toList) = ([97] : List UInt8) && (((rd_T28 t101 0).f1) == 2)) := by simpa using c5))
          clear c5
          obtain rfl := Option.some.inj H
          go_enter Try.func10, Try.ntmps10
          go_wp2_with (first | ((with_reducible refine gate_callee (f := 8) rfl ?_); refine goesL_ (some 4) rfl rfl Try.func8 (by kernel_rfl) rfl #[.string (⟨#[32, 97, 32, 32, 98, 35, 32, 99]⟩ : ByteArray)] rfl (by (try simp only [List.map_toArray, List.map_cons, List.map_nil]); first | done | rfl | (simp only [List.length_drop, List.length_take]; rfl)) ?_; (with_reducible refine (words_Split.calls k (⟨#[32, 97, 32, 32, 98, 35, 32, 99]⟩ : ByteArray) t101 t102 _ A1.out).mono ?_); rintro e w9 ⟨v103, rfl, ho0, hb⟩; refine ⟨_, rfl, ?_⟩; have n0_ := Aside0.mk (Kd.R_lower ho0 (below_size (by repeat (first | (with_reducible first | exact HB.out | apply below_alloc | apply pw_below_drewN | apply below_drew1) | exact HB.out)))); have n1_ := Aside0.mk (below_step (by repeat (first | (with_reducible first | exact HB.out | apply below_alloc | apply pw_below_drewN | apply below_drew1) | exact HB.out)) hb); clear HB; have HO104 := n0_; have HB := n1_; clear n0_ n1_; (try clear hb); (try clear hb2); (try clear hk); (try clear hi); (try clear ho0); obtain ⟨Ao10, co10, eo10⟩ := Kd.R_slice HO104.out; subst eo10; have p105 : 0 ≤ (0 : Int) := (by omega); have q105 : 0 < (t101.length : Int) := of_decide_eq_true (by first | (with_reducible assumption) | assumption); obtain ⟨ad105, e105, hx105_0, hx105_1⟩ := at_T28 (Kd.R_reads' HO104.out).2.2 0 p105 q105; cases e105; have qi105 : (0 < t101.length) = True := eq_true (by omega); (try rw [show ((0 : Int)).toNat = 0 from rfl] at hx105_0); (try rw [show 0 * 2 = 0 from rfl] at hx105_0); (try rw [Addr.add_zero'] at hx105_0); (try rw [show ((0 : Int)).toNat = 0 from rfl] at hx105_1); (try rw [show 0 * 2 = 0 from rfl] at hx105_1); (try rw [Addr.add_zero'] at hx105_1); replace p105 := eq_true p105; replace q105 := eq_true q105))
          go_ret
          exact ⟨by first | rfl | (simp [errW_none, errW_some] <;> rfl) | (simp [*, errW_none, errW_some] <;> rfl), by repeat (first | (with_reducible first | exact HB.out | apply below_alloc | apply pw_below_drewN | apply below_drew1) | exact HB.out)⟩
      · rw [if_neg c4] at H
        exact absurd H (by simp)
    · rw [if_neg c3] at H
      have c3b0 : ((t101.length : Int) == 2) = false := beq_eq_false_iff_ne.mpr c3
      have c3b1 : ((t101.length : Int) != 2) = true := bne_iff_ne.mpr c3
      obtain rfl := Option.some.inj H
      go_enter Try.func10, Try.ntmps10
      go_wp2_with (first | ((with_reducible refine gate_callee (f := 8) rfl ?_); refine goesL_ (some 4) rfl rfl Try.func8 (by kernel_rfl) rfl #[.string (⟨#[32, 97, 32, 32, 98, 35, 32, 99]⟩ : ByteArray)] rfl (by (try simp only [List.map_toArray, List.map_cons, List.map_nil]); first | done | rfl | (simp only [List.length_drop, List.length_take]; rfl)) ?_; (with_reducible refine (words_Split.calls k (⟨#[32, 97, 32, 32, 98, 35, 32, 99]⟩ : ByteArray) t101 t102 _ A1.out).mono ?_); rintro e w11 ⟨v103, rfl, ho0, hb⟩; refine ⟨_, rfl, ?_⟩; have n0_ := Aside0.mk (Kd.R_lower ho0 (below_size (by repeat (first | (with_reducible first | exact HB.out | apply below_alloc | apply pw_below_drewN | apply below_drew1) | exact HB.out)))); have n1_ := Aside0.mk (below_step (by repeat (first | (with_reducible first | exact HB.out | apply below_alloc | apply pw_below_drewN | apply below_drew1) | exact HB.out)) hb); clear HB; have HO104 := n0_; have HB := n1_; clear n0_ n1_; (try clear hb); (try clear hb2); (try clear hk); (try clear hi); (try clear ho0); obtain ⟨Ao12, co12, eo12⟩ := Kd.R_slice HO104.out; subst eo12))
      go_ret
      exact ⟨by first | rfl | (simp [errW_none, errW_some] <;> rfl) | (simp [*, errW_none, errW_some] <;> rfl), by repeat (first | (with_reducible first | exact HB.out | apply below_alloc | apply pw_below_drewN | apply below_drew1) | exact HB.out)⟩
  · rw [if_neg c2] at H
    have c2b0 : (t102 == 0) = false := beq_eq_false_iff_ne.mpr c2
    have c2b1 : (t102 != 0) = true := bne_iff_ne.mpr c2
    obtain rfl := Option.some.inj H
    go_enter Try.func10, Try.ntmps10
    go_wp2_with (first | ((with_reducible refine gate_callee (f := 8) rfl ?_); refine goesL_ (some 4) rfl rfl Try.func8 (by kernel_rfl) rfl #[.string (⟨#[32, 97, 32, 32, 98, 35, 32, 99]⟩ : ByteArray)] rfl (by (try simp only [List.map_toArray, List.map_cons, List.map_nil]); first | done | rfl | (simp only [List.length_drop, List.length_take]; rfl)) ?_; (with_reducible refine (words_Split.calls k (⟨#[32, 97, 32, 32, 98, 35, 32, 99]⟩ : ByteArray) t101 t102 _ A1.out).mono ?_); rintro e w13 ⟨v103, rfl, ho0, hb⟩; refine ⟨_, rfl, ?_⟩; have n0_ := Aside0.mk (Kd.R_lower ho0 (below_size (by repeat (first | (with_reducible first | exact HB.out | apply below_alloc | apply pw_below_drewN | apply below_drew1) | exact HB.out)))); have n1_ := Aside0.mk (below_step (by repeat (first | (with_reducible first | exact HB.out | apply below_alloc | apply pw_below_drewN | apply below_drew1) | exact HB.out)) hb); clear HB; have HO104 := n0_; have HB := n1_; clear n0_ n1_; (try clear hb); (try clear hb2); (try clear hk); (try clear hi); (try clear ho0)))
    go_ret
    exact ⟨by first | rfl | (simp [errW_none, errW_some] <;> rfl) | (simp [*, errW_none, errW_some] <;> rfl), by repeat (first | (with_reducible first | exact HB.out | apply below_alloc | apply pw_below_drewN | apply below_drew1) | exact HB.out)⟩

end Go.Proofs.Ytniohifoimhbkaa.Q
