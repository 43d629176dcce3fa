-- printed by myprint.py: a program of this repo over the kit's print
import Derived.Test.YtniohifoimhbkaaQx0
import Derived.Test.YtniohifoimhbkaaQx2
import Derived.Test.YtniohifoimhbkaaQx13
import Derived.Test.YtniohifoimhbkaaQx15
namespace Go.Proofs.Ytniohifoimhbkaa.Q
open Go.RowKit Go.Proofs.YtniohifoimhbkaaW.PrintWords Go.Proofs.YtniohifoimhbkaaW.PrintLast Go.Proofs.YtniohifoimhbkaaW.PrintMore
attribute [local go_sem] max2_int min2_int max_two min_two max_three min_three max_four min_four   -- for this text's walks alone
set_option linter.unusedVariables false
set_option linter.unusedSimpArgs false

/-! ### imprimaturlaw01_WordsPlaces: function 5 -/
mutual
def imprimaturlaw01_WordsPlaces.l0 : Nat → ByteArray → List (S28) → Int → Int → Int → Int → Option (Bool)
  | 0, _, _, _, _, _, _ => none
  | k + 1, x0, x3, x5, x6, x51, x52 => if x52 < x51 then (if 0 ≤ x52 then (if x52 < (x3.length : Int) then (if (wrap64 (((rd_T28 x3 x52).f1) - 1)) < x5 then (imprimaturlaw01_WordsPlaces.j1 k x0 x3 x5 x6 x52 (wrap64 (((rd_T28 x3 x52).f1) - 1)) x51 x52 true) else (if ((rd_T28 x3 x52).f0).toList = ([] : List UInt8) then (imprimaturlaw01_WordsPlaces.j1 k x0 x3 x5 x6 x52 (wrap64 (((rd_T28 x3 x52).f1) - 1)) x51 x52 true) else (if (wrap64 ((wrap64 (((rd_T28 x3 x52).f1) - 1)) + (((rd_T28 x3 x52).f0).size : Int))) > (x0.size : Int) then (imprimaturlaw01_WordsPlaces.j1 k x0 x3 x5 x6 x52 (wrap64 (((rd_T28 x3 x52).f1) - 1)) x51 x52 true) else (if 0 ≤ (wrap64 (((rd_T28 x3 x52).f1) - 1)) then (if (wrap64 (((rd_T28 x3 x52).f1) - 1)) ≤ (wrap64 ((wrap64 (((rd_T28 x3 x52).f1) - 1)) + (((rd_T28 x3 x52).f0).size : Int))) then (if (wrap64 ((wrap64 (((rd_T28 x3 x52).f1) - 1)) + (((rd_T28 x3 x52).f0).size : Int))) ≤ (x0.size : Int) then (if (x0.extract ((wrap64 (((rd_T28 x3 x52).f1) - 1)) : Int).toNat ((wrap64 ((wrap64 (((rd_T28 x3 x52).f1) - 1)) + (((rd_T28 x3 x52).f0).size : Int))) : Int).toNat).toList = ((rd_T28 x3 x52).f0).toList then (if x52 > 0 then (imprimaturlaw01_WordsPlaces.j1 k x0 x3 x5 x6 x52 (wrap64 (((rd_T28 x3 x52).f1) - 1)) x51 x52 ((wrap64 (((rd_T28 x3 x52).f1) - 1)) == x5)) else (imprimaturlaw01_WordsPlaces.j1 k x0 x3 x5 x6 x52 (wrap64 (((rd_T28 x3 x52).f1) - 1)) x51 x52 false)) else (imprimaturlaw01_WordsPlaces.j1 k x0 x3 x5 x6 x52 (wrap64 (((rd_T28 x3 x52).f1) - 1)) x51 x52 true)) else (none)) else (none)) else (none))))) else (none)) else (none)) else (imprimaturlaw01_WordsPlaces.l3 k x0 x5 x6)
def imprimaturlaw01_WordsPlaces.j1 : Nat → ByteArray → List (S28) → Int → Int → Int → Int → Int → Int → Bool → Option (Bool)
  | 0, _, _, _, _, _, _, _, _, _ => none
  | k + 1, x0, x3, x5, x6, x7, x8, x51, x52, x112 => if x112 = true then (some false) else (imprimaturlaw01_WordsPlaces.l1 k x0 x3 x6 x7 x8 x5 x51 x52)
def imprimaturlaw01_WordsPlaces.l1 : Nat → ByteArray → List (S28) → Int → Int → Int → Int → Int → Int → Option (Bool)
  | 0, _, _, _, _, _, _, _, _ => none
  | k + 1, x0, x3, x6, x7, x8, x9, x51, x52 => if x9 < x8 then (if 0 ≤ x9 then (if x9 < (x0.size : Int) then (if (bt x0 x9) = 32 then (imprimaturlaw01_WordsPlaces.l1 k x0 x3 x6 x7 x8 (wrap64 (x9 + 1)) x51 x52) else (some false)) else (none)) else (none)) else (imprimaturlaw01_WordsPlaces.l2 k x0 x3 x6 x7 x8 0 x51 x52)
def imprimaturlaw01_WordsPlaces.l2 : Nat → ByteArray → List (S28) → Int → Int → Int → Int → Int → Int → Option (Bool)
  | 0, _, _, _, _, _, _, _, _ => none
  | k + 1, x0, x3, x6, x7, x8, x10, x51, x52 => if 0 ≤ x7 then (if x7 < (x3.length : Int) then (if x10 < (((rd_T28 x3 x7).f0).size : Int) then (if 0 ≤ x10 then (if (bt ((rd_T28 x3 x7).f0) x10) = 32 then (some false) else (if (bt ((rd_T28 x3 x7).f0) x10) = 35 then (some false) else (imprimaturlaw01_WordsPlaces.l2 k x0 x3 x6 x7 x8 (wrap64 (x10 + 1)) x51 x52))) else (none)) else (imprimaturlaw01_WordsPlaces.l0 k x0 x3 (wrap64 (x8 + (((rd_T28 x3 x7).f0).size : Int))) (wrap64 (x6 + 1)) x51 (wrap64 (x52 + 1)))) else (none)) else (none)
def imprimaturlaw01_WordsPlaces.l3 : Nat → ByteArray → Int → Int → Option (Bool)
  | 0, _, _, _ => none
  | k + 1, x0, x5, x6 => if x5 < (x0.size : Int) then (if 0 ≤ x5 then (if (bt x0 x5) = 32 then (imprimaturlaw01_WordsPlaces.l3 k x0 (wrap64 (x5 + 1)) x6) else (if x5 = (x0.size : Int) then ((imprimaturlaw01_wakes.f k).bind fun t117 => (some t117)) else (if (bt x0 x5) = 35 then ((imprimaturlaw01_wakes.f k).bind fun t118 => (some t118)) else (some false)))) else (none)) else (if x5 = (x0.size : Int) then ((imprimaturlaw01_wakes.f k).bind fun t119 => (some t119)) else (if 0 ≤ x5 then (none) else (none)))
end
def imprimaturlaw01_WordsPlaces.f (k : Nat) (a0 : ByteArray) : Option (Bool) := (imprimaturkeep_Text.f a0 80).bind fun t101 => ((words_Split.f k t101).bind fun bt102 => (if bt102.2 = 0 then (imprimaturlaw01_WordsPlaces.l0 k t101 bt102.1 0 0 (bt102.1.length : Int) 0) else (if (bt102.1.length : Int) = 0 then (if bt102.2 ≥ 1 then (if bt102.2 ≤ (t101.size : Int) then (if 0 ≤ (wrap64 (bt102.2 - 1)) then (if (wrap64 (bt102.2 - 1)) < (t101.size : Int) then (if (bt t101 (wrap64 (bt102.2 - 1))) < 32 then ((imprimaturlaw01_wakes.f k).bind fun t106 => (some t106)) else (if (bt t101 (wrap64 (bt102.2 - 1))) > 126 then ((imprimaturlaw01_wakes.f k).bind fun t107 => (some t107)) else (some false))) else (none)) else (none)) else (some false)) else (some false)) else (some false))))
theorem imprimaturlaw01_WordsPlaces.mono_l : ∀ k, (∀ y0 y1 y2 y3 y4 y5, LeO (imprimaturlaw01_WordsPlaces.l0 k y0 y1 y2 y3 y4 y5) (imprimaturlaw01_WordsPlaces.l0 (k + 1) y0 y1 y2 y3 y4 y5)) ∧ (∀ y0 y1 y2 y3 y4 y5 y6 y7 y8, LeO (imprimaturlaw01_WordsPlaces.j1 k y0 y1 y2 y3 y4 y5 y6 y7 y8) (imprimaturlaw01_WordsPlaces.j1 (k + 1) y0 y1 y2 y3 y4 y5 y6 y7 y8)) ∧ (∀ y0 y1 y2 y3 y4 y5 y6 y7, LeO (imprimaturlaw01_WordsPlaces.l1 k y0 y1 y2 y3 y4 y5 y6 y7) (imprimaturlaw01_WordsPlaces.l1 (k + 1) y0 y1 y2 y3 y4 y5 y6 y7)) ∧ (∀ y0 y1 y2 y3 y4 y5 y6 y7, LeO (imprimaturlaw01_WordsPlaces.l2 k y0 y1 y2 y3 y4 y5 y6 y7) (imprimaturlaw01_WordsPlaces.l2 (k + 1) y0 y1 y2 y3 y4 y5 y6 y7)) ∧ (∀ y0 y1 y2, LeO (imprimaturlaw01_WordsPlaces.l3 k y0 y1 y2) (imprimaturlaw01_WordsPlaces.l3 (k + 1) y0 y1 y2))
  | 0 => ⟨fun _ _ _ _ _ _ r h => by simp [imprimaturlaw01_WordsPlaces.l0] at h, fun _ _ _ _ _ _ _ _ _ r h => by simp [imprimaturlaw01_WordsPlaces.j1] at h, fun _ _ _ _ _ _ _ _ r h => by simp [imprimaturlaw01_WordsPlaces.l1] at h, fun _ _ _ _ _ _ _ _ r h => by simp [imprimaturlaw01_WordsPlaces.l2] at h, fun _ _ _ r h => by simp [imprimaturlaw01_WordsPlaces.l3] at h⟩
  | k + 1 => by
    obtain ⟨ih0, ih1, ih2, ih3, ih4⟩ := imprimaturlaw01_WordsPlaces.mono_l k
    refine ⟨?_, ?_, ?_, ?_, ?_⟩
    · intro y0 y1 y2 y3 y4 y5
      unfold imprimaturlaw01_WordsPlaces.l0
      repeat' first
      | (with_reducible exact ih0 _ _ _ _ _ _)
      | (with_reducible exact ih1 _ _ _ _ _ _ _ _ _)
      | (with_reducible exact ih2 _ _ _ _ _ _ _ _)
      | (with_reducible exact ih3 _ _ _ _ _ _ _ _)
      | (with_reducible exact ih4 _ _ _)
      | (with_reducible exact imprimaturlaw01_wakes.mono _)
      | (with_reducible exact words_Split.mono _ _)
      | (with_reducible exact LeO.refl _)
      | (with_reducible exact LeO.none _)
      | (with_reducible refine LeO.ite ?_ ?_)
      | (with_reducible refine LeO.bind ?_ (fun _ => ?_))
      | exact ih0 _ _ _ _ _ _
      | exact ih1 _ _ _ _ _ _ _ _ _
      | exact ih2 _ _ _ _ _ _ _ _
      | exact ih3 _ _ _ _ _ _ _ _
      | exact ih4 _ _ _
      | exact imprimaturlaw01_wakes.mono _
      | exact words_Split.mono _ _
      | exact LeO.none _
      | refine LeO.ite ?_ ?_
      | refine LeO.bind ?_ (fun _ => ?_)
    · intro y0 y1 y2 y3 y4 y5 y6 y7 y8
      unfold imprimaturlaw01_WordsPlaces.j1
      repeat' first
      | (with_reducible exact ih0 _ _ _ _ _ _)
      | (with_reducible exact ih1 _ _ _ _ _ _ _ _ _)
      | (with_reducible exact ih2 _ _ _ _ _ _ _ _)
      | (with_reducible exact ih3 _ _ _ _ _ _ _ _)
      | (with_reducible exact ih4 _ _ _)
      | (with_reducible exact imprimaturlaw01_wakes.mono _)
      | (with_reducible exact words_Split.mono _ _)
      | (with_reducible exact LeO.refl _)
      | (with_reducible exact LeO.none _)
      | (with_reducible refine LeO.ite ?_ ?_)
      | (with_reducible refine LeO.bind ?_ (fun _ => ?_))
      | exact ih0 _ _ _ _ _ _
      | exact ih1 _ _ _ _ _ _ _ _ _
      | exact ih2 _ _ _ _ _ _ _ _
      | exact ih3 _ _ _ _ _ _ _ _
      | exact ih4 _ _ _
      | exact imprimaturlaw01_wakes.mono _
      | exact words_Split.mono _ _
      | exact LeO.none _
      | refine LeO.ite ?_ ?_
      | refine LeO.bind ?_ (fun _ => ?_)
    · intro y0 y1 y2 y3 y4 y5 y6 y7
      unfold imprimaturlaw01_WordsPlaces.l1
      repeat' first
      | (with_reducible exact ih0 _ _ _ _ _ _)
      | (with_reducible exact ih1 _ _ _ _ _ _ _ _ _)
      | (with_reducible exact ih2 _ _ _ _ _ _ _ _)
      | (with_reducible exact ih3 _ _ _ _ _ _ _ _)
      | (with_reducible exact ih4 _ _ _)
      | (with_reducible exact imprimaturlaw01_wakes.mono _)
      | (with_reducible exact words_Split.mono _ _)
      | (with_reducible exact LeO.refl _)
      | (with_reducible exact LeO.none _)
      | (with_reducible refine LeO.ite ?_ ?_)
      | (with_reducible refine LeO.bind ?_ (fun _ => ?_))
      | exact ih0 _ _ _ _ _ _
      | exact ih1 _ _ _ _ _ _ _ _ _
      | exact ih2 _ _ _ _ _ _ _ _
      | exact ih3 _ _ _ _ _ _ _ _
      | exact ih4 _ _ _
      | exact imprimaturlaw01_wakes.mono _
      | exact words_Split.mono _ _
      | exact LeO.none _
      | refine LeO.ite ?_ ?_
      | refine LeO.bind ?_ (fun _ => ?_)
    · intro y0 y1 y2 y3 y4 y5 y6 y7
      unfold imprimaturlaw01_WordsPlaces.l2
      repeat' first
      | (with_reducible exact ih0 _ _ _ _ _ _)
      | (with_reducible exact ih1 _ _ _ _ _ _ _ _ _)
      | (with_reducible exact ih2 _ _ _ _ _ _ _ _)
      | (with_reducible exact ih3 _ _ _ _ _ _ _ _)
      | (with_reducible exact ih4 _ _ _)
      | (with_reducible exact imprimaturlaw01_wakes.mono _)
      | (with_reducible exact words_Split.mono _ _)
      | (with_reducible exact LeO.refl _)
      | (with_reducible exact LeO.none _)
      | (with_reducible refine LeO.ite ?_ ?_)
      | (with_reducible refine LeO.bind ?_ (fun _ => ?_))
      | exact ih0 _ _ _ _ _ _
      | exact ih1 _ _ _ _ _ _ _ _ _
      | exact ih2 _ _ _ _ _ _ _ _
      | exact ih3 _ _ _ _ _ _ _ _
      | exact ih4 _ _ _
      | exact imprimaturlaw01_wakes.mono _
      | exact words_Split.mono _ _
      | exact LeO.none _
      | refine LeO.ite ?_ ?_
      | refine LeO.bind ?_ (fun _ => ?_)
    · intro y0 y1 y2
      unfold imprimaturlaw01_WordsPlaces.l3
      repeat' first
      | (with_reducible exact ih0 _ _ _ _ _ _)
      | (with_reducible exact ih1 _ _ _ _ _ _ _ _ _)
      | (with_reducible exact ih2 _ _ _ _ _ _ _ _)
      | (with_reducible exact ih3 _ _ _ _ _ _ _ _)
      | (with_reducible exact ih4 _ _ _)
      | (with_reducible exact imprimaturlaw01_wakes.mono _)
      | (with_reducible exact words_Split.mono _ _)
      | (with_reducible exact LeO.refl _)
      | (with_reducible exact LeO.none _)
      | (with_reducible refine LeO.ite ?_ ?_)
      | (with_reducible refine LeO.bind ?_ (fun _ => ?_))
      | exact ih0 _ _ _ _ _ _
      | exact ih1 _ _ _ _ _ _ _ _ _
      | exact ih2 _ _ _ _ _ _ _ _
      | exact ih3 _ _ _ _ _ _ _ _
      | exact ih4 _ _ _
      | exact imprimaturlaw01_wakes.mono _
      | exact words_Split.mono _ _
      | exact LeO.none _
      | refine LeO.ite ?_ ?_
      | refine LeO.bind ?_ (fun _ => ?_)
theorem imprimaturlaw01_WordsPlaces.mono : ∀ a0 k, LeO (imprimaturlaw01_WordsPlaces.f k a0) (imprimaturlaw01_WordsPlaces.f (k + 1) a0) := by
  intro a0 k
  obtain ⟨ih0, ih1, ih2, ih3, ih4⟩ := imprimaturlaw01_WordsPlaces.mono_l k
  unfold imprimaturlaw01_WordsPlaces.f
  repeat' first
      | (with_reducible exact ih0 _ _ _ _ _ _)
      | (with_reducible exact ih1 _ _ _ _ _ _ _ _ _)
      | (with_reducible exact ih2 _ _ _ _ _ _ _ _)
      | (with_reducible exact ih3 _ _ _ _ _ _ _ _)
      | (with_reducible exact ih4 _ _ _)
      | (with_reducible exact imprimaturlaw01_wakes.mono _)
      | (with_reducible exact words_Split.mono _ _)
      | (with_reducible exact LeO.refl _)
      | (with_reducible exact LeO.none _)
      | (with_reducible refine LeO.ite ?_ ?_)
      | (with_reducible refine LeO.bind ?_ (fun _ => ?_))
      | exact ih0 _ _ _ _ _ _
      | exact ih1 _ _ _ _ _ _ _ _ _
      | exact ih2 _ _ _ _ _ _ _ _
      | exact ih3 _ _ _ _ _ _ _ _
      | exact ih4 _ _ _
      | exact imprimaturlaw01_wakes.mono _
      | exact words_Split.mono _ _
      | exact LeO.none _
      | refine LeO.ite ?_ ?_
      | refine LeO.bind ?_ (fun _ => ?_)
set_option maxHeartbeats 8000000 in
set_option maxRecDepth 100000 in
theorem imprimaturlaw01_WordsPlaces.calls (k : Nat) (a0 : ByteArray) (r : Bool) (w : World) (h : imprimaturlaw01_WordsPlaces.f k a0 = some r) :
    Calls Try.prog 5 #[.string a0] w fun e w' => e = .returned (.bool r) ∧ Below w.heap.size w w' := by
  have HB := Aside0.mk (Below.refl w.heap.size w)
  have H : ((imprimaturkeep_Text.f a0 80).bind fun t101 => ((words_Split.f k t101).bind fun bt102 => (if bt102.2 = 0 then (imprimaturlaw01_WordsPlaces.l0 k t101 bt102.1 0 0 (bt102.1.length : Int) 0) else (if (bt102.1.length : Int) = 0 then (if bt102.2 ≥ 1 then (if bt102.2 ≤ (t101.size : Int) then (if 0 ≤ (wrap64 (bt102.2 - 1)) then (if (wrap64 (bt102.2 - 1)) < (t101.size : Int) then (if (bt t101 (wrap64 (bt102.2 - 1))) < 32 then ((imprimaturlaw01_wakes.f k).bind fun t106 => (some t106)) else (if (bt t101 (wrap64 (bt102.2 - 1))) > 126 then ((imprimaturlaw01_wakes.f k).bind fun t107 => (some t107)) else (some false))) else (none)) else (none)) else (some false)) else (some false)) else (some false))))) = some r := h
  clear h
  replace H := Option.bind_eq_some_iff.mp H
  obtain ⟨t101, A20, H⟩ := H
  replace H : ((words_Split.f k t101).bind fun bt102 => (if bt102.2 = 0 then (imprimaturlaw01_WordsPlaces.l0 k t101 bt102.1 0 0 (bt102.1.length : Int) 0) else (if (bt102.1.length : Int) = 0 then (if bt102.2 ≥ 1 then (if bt102.2 ≤ (t101.size : Int) then (if 0 ≤ (wrap64 (bt102.2 - 1)) then (if (wrap64 (bt102.2 - 1)) < (t101.size : Int) then (if (bt t101 (wrap64 (bt102.2 - 1))) < 32 then ((imprimaturlaw01_wakes.f k).bind fun t106 => (some t106)) else (if (bt t101 (wrap64 (bt102.2 - 1))) > 126 then ((imprimaturlaw01_wakes.f k).bind fun t107 => (some t107)) else (some false))) else (none)) else (none)) else (some false)) else (some false)) else (some false)))) = some r := H
  have A2 := Aside0.mk A20
  clear A20
  replace H := Option.bind_eq_some_iff.mp H
  obtain ⟨⟨t102, t103⟩, A30, H⟩ := H
  replace H : (if t103 = 0 then (imprimaturlaw01_WordsPlaces.l0 k t101 t102 0 0 (t102.length : Int) 0) else (if (t102.length : Int) = 0 then (if t103 ≥ 1 then (if t103 ≤ (t101.size : Int) then (if 0 ≤ (wrap64 (t103 - 1)) then (if (wrap64 (t103 - 1)) < (t101.size : Int) then (if (bt t101 (wrap64 (t103 - 1))) < 32 then ((imprimaturlaw01_wakes.f k).bind fun t106 => (some t106)) else (if (bt t101 (wrap64 (t103 - 1))) > 126 then ((imprimaturlaw01_wakes.f k).bind fun t107 => (some t107)) else (some false))) else (none)) else (none)) else (some false)) else (some false)) else (some false))) = some r := H
  have A3 := Aside0.mk A30
  clear A30
  by_cases c4 : t103 = 0
  · rw [if_pos c4] at H
    have c4b0 : (t103 == 0) = true := beq_iff_eq.mpr c4
    have c4b1 : (t103 != 0) = false := bne_eq_false_iff_eq.mpr c4
    clear c4
    have H' := Aside0.mk H
    clear H
    go_enter Try.func5, Try.ntmps5
    go_wp2_with (first | (go_at_call 11; (with_reducible refine (imprimaturkeep_Text.calls a0 80 t101 _ A2.out).mono ?_); rintro e w5 ⟨rfl, hb⟩; have n0_ := Aside0.mk (below_step (by repeat (first | (with_reducible first | exact HB.out | apply below_alloc | apply pw_below_drewN | apply below_drew1) | exact HB.out)) hb); clear HB; have HB := n0_; clear n0_; (try clear hb); (try clear hb2); (try clear hk); (try clear hi)) | (go_at_call 8; (with_reducible refine (words_Split.calls k t101 t102 t103 _ A3.out).mono ?_); rintro e w6 ⟨v104, rfl, ho0, hb⟩; have n0_ := Aside0.mk (Kd.R_lower ho0 (below_size (by repeat (first | (with_reducible first | exact HB.out | apply below_alloc | apply pw_below_drewN | apply below_drew1) | exact HB.out)))); have n1_ := Aside0.mk (below_step (by repeat (first | (with_reducible first | exact HB.out | apply below_alloc | apply pw_below_drewN | apply below_drew1) | exact HB.out)) hb); clear HB; have HO105 := n0_; have HB := n1_; clear n0_ n1_; (try clear hb); (try clear hb2); (try clear hk); (try clear hi); (try clear ho0); obtain ⟨Ao7, co7, eo7⟩ := Kd.R_slice HO105.out; subst eo7))
    repeat (go_quiet (first | (go_at_call 11; (with_reducible refine (imprimaturkeep_Text.calls a0 80 t101 _ A2.out).mono ?_); rintro e w5 ⟨rfl, hb⟩; have n0_ := Aside0.mk (below_step (by repeat (first | (with_reducible first | exact HB.out | apply below_alloc | apply pw_below_drewN | apply below_drew1) | exact HB.out)) hb); clear HB; have HB := n0_; clear n0_; (try clear hb); (try clear hb2); (try clear hk); (try clear hi)) | (go_at_call 8; (with_reducible refine (words_Split.calls k t101 t102 t103 _ A3.out).mono ?_); rintro e w6 ⟨v104, rfl, ho0, hb⟩; have n0_ := Aside0.mk (Kd.R_lower ho0 (below_size (by repeat (first | (with_reducible first | exact HB.out | apply below_alloc | apply pw_below_drewN | apply below_drew1) | exact HB.out)))); have n1_ := Aside0.mk (below_step (by repeat (first | (with_reducible first | exact HB.out | apply below_alloc | apply pw_below_drewN | apply below_drew1) | exact HB.out)) hb); clear HB; have HO105 := n0_; have HB := n1_; clear n0_ n1_; (try clear hb); (try clear hb2); (try clear hk); (try clear hi); (try clear ho0); obtain ⟨Ao7, co7, eo7⟩ := Kd.R_slice HO105.out; subst eo7)); try go_wp2_with (first | (go_at_call 11; (with_reducible refine (imprimaturkeep_Text.calls a0 80 t101 _ A2.out).mono ?_); rintro e w5 ⟨rfl, hb⟩; have n0_ := Aside0.mk (below_step (by repeat (first | (with_reducible first | exact HB.out | apply below_alloc | apply pw_below_drewN | apply below_drew1) | exact HB.out)) hb); clear HB; have HB := n0_; clear n0_; (try clear hb); (try clear hb2); (try clear hk); (try clear hi)) | (go_at_call 8; (with_reducible refine (words_Split.calls k t101 t102 t103 _ A3.out).mono ?_); rintro e w6 ⟨v104, rfl, ho0, hb⟩; have n0_ := Aside0.mk (Kd.R_lower ho0 (below_size (by repeat (first | (with_reducible first | exact HB.out | apply below_alloc | apply pw_below_drewN | apply below_drew1) | exact HB.out)))); have n1_ := Aside0.mk (below_step (by repeat (first | (with_reducible first | exact HB.out | apply below_alloc | apply pw_below_drewN | apply below_drew1) | exact HB.out)) hb); clear HB; have HO105 := n0_; have HB := n1_; clear n0_ n1_; (try clear hb); (try clear hb2); (try clear hk); (try clear hi); (try clear ho0); obtain ⟨Ao7, co7, eo7⟩ := Kd.R_slice HO105.out; subst eo7)))
    go_loopg [5, 6, 52] k (fun kq v5 v6 v52 w' => ∃ (x5_1 : Int) (x6_1 : Int) (x52_1 : Int), v5 = .int .i64 x5_1 ∧ v6 = .int .i64 x6_1 ∧ v52 = .int .i64 x52_1 ∧ Aside0 (imprimaturlaw01_WordsPlaces.l0 kq t101 t102 x5_1 x6_1 (t102.length : Int) x52_1 = some r) ∧ Aside0 (kq ≤ k) ∧ Aside0 (Kd.R k28 28 w' w.heap.size (fun _ => True) (.slice Ao7 t102.length co7) t102) ∧ Aside0 (Below w.heap.size w w'))
    case atStart => exact ⟨(0), (0), (0), (by first | rfl | (simp; done) | (simp [*]; done)), (by first | rfl | (simp; done) | (simp [*]; done)), (by first | rfl | (simp; done) | (simp [*]; done)), H', ⟨Nat.le_refl _⟩, ⟨by (with_reducible repeat (first | apply Kd.R_alloc | apply Kd.R_drewN | apply Kd.R_drew)); exact HO105.out⟩, ⟨by repeat (first | (with_reducible first | exact HB.out | apply below_alloc | apply pw_below_drewN | apply below_drew1) | exact HB.out)⟩⟩
    case round =>
      clear H'
      try clear p2
      try clear c4
      try clear c4b0
      try clear c4b1
      try clear c5
      try clear p6
      obtain ⟨x5_1, x6_1, x52_1, rfl, rfl, rfl, HA, HK1, HO_3, HB⟩ := hrel
      cases gk with
      | zero => exact absurd HA.out (by simp [imprimaturlaw01_WordsPlaces.l0])
      | succ k1 =>
        have H := HA.out
        clear HA
        simp only [imprimaturlaw01_WordsPlaces.l0] at H
        by_cases c8 : x52_1 < (t102.length : Int)
        · rw [if_pos c8] at H
          have c8b0 : decide (x52_1 < (t102.length : Int)) = true := decide_eq_true c8
          clear c8
          by_cases c9 : 0 ≤ x52_1
          · rw [if_pos c9] at H
            have c9b0 : decide (0 ≤ x52_1) = true := decide_eq_true c9
            clear c9
            by_cases c10 : x52_1 < (t102.length : Int)
            · rw [if_pos c10] at H
              have c10b0 : decide (x52_1 < (t102.length : Int)) = true := decide_eq_true c10
              clear c10
              have HC11 := Aside0.mk H
              clear H
              have p108 : 0 ≤ (x52_1 : Int) := of_decide_eq_true (by first | (with_reducible assumption) | assumption)
              have q108 : x52_1 < (t102.length : Int) := of_decide_eq_true (by first | (with_reducible assumption) | assumption)
              obtain ⟨ad108, e108, hx108_0, hx108_1⟩ := at_T28 (Kd.R_reads' HO_3.out).2.2 x52_1 p108 q108
              cases e108
              replace p108 := eq_true p108
              replace q108 := eq_true q108
              go_upto_region 10 with (fail)
              repeat (go_quiet (fail); go_upto_region 10 with (fail))
              go_cut [112] (fun v112 wc => ∃ (kq : Nat) (x112_10 : Bool), v112 = .bool x112_10 ∧ Aside0 (imprimaturlaw01_WordsPlaces.j1 kq t101 t102 x5_1 x6_1 x52_1 (wrap64 (((rd_T28 t102 x52_1).f1) - 1)) (t102.length : Int) x52_1 x112_10 = some r) ∧ Aside0 (kq ≤ k1) ∧ Aside0 (Kd.R k28 28 wc w.heap.size (fun _ => True) (.slice (some ad108) t102.length co7) t102) ∧ Aside0 (Below w.heap.size w wc))
              case first =>
                have H := HC11.out
                clear HC11
                by_cases c12 : (wrap64 (((rd_T28 t102 x52_1).f1) - 1)) < x5_1
                · rw [if_pos c12] at H
                  have c12b0 : decide ((wrap64 (((rd_T28 t102 x52_1).f1) - 1)) < x5_1) = true := decide_eq_true c12
                  clear c12
                  (first | rw [c12b0] | (simp only [i64_w, i32_w]; rw [c12b0]) | skip)
                  have H' := Aside0.mk H
                  clear H
                  go_wp2
                  repeat (go_quiet (fail); try go_wp2)
                  go_meet
                  case rel => exact ⟨_, (true), (by first | rfl | (simp; done) | (simp [*]; done)), H', ⟨by have := HK1.out; first | omega | exact Nat.le_refl _⟩, ⟨by (with_reducible repeat (first | apply Kd.R_alloc | apply Kd.R_drewN | apply Kd.R_drew)); exact HO_3.out⟩, ⟨by repeat (first | (with_reducible first | exact HB.out | apply below_alloc | apply pw_below_drewN | apply below_drew1) | exact HB.out)⟩⟩
                · rw [if_neg c12] at H
                  have c12b0 : decide ((wrap64 (((rd_T28 t102 x52_1).f1) - 1)) < x5_1) = false := decide_eq_false c12
                  clear c12
                  (first | rw [c12b0] | (simp only [i64_w, i32_w]; rw [c12b0]) | skip)
                  by_cases c13 : ((rd_T28 t102 x52_1).f0).toList = ([] : List UInt8)
                  · rw [if_pos c13] at H
                    have c13b0 : (((rd_T28 t102 x52_1).f0).toList == ([] : List UInt8)) = true := beq_iff_eq.mpr c13
                    have c13b1 : (((rd_T28 t102 x52_1).f0).toList != ([] : List UInt8)) = false := bne_eq_false_iff_eq.mpr c13
                    clear c13
                    have H' := Aside0.mk H
                    clear H
                    have p109 : 0 ≤ (x52_1 : Int) := of_decide_eq_true (by first | (with_reducible assumption) | assumption)
                    have q109 : x52_1 < (t102.length : Int) := of_decide_eq_true (by first | (with_reducible assumption) | assumption)
                    obtain ⟨ad109, e109, hx109_0, hx109_1⟩ := at_T28 (Kd.R_reads' HO_3.out).2.2 x52_1 p109 q109
                    obtain rfl : ad108 = ad109 := (by injection e109)
                    replace p109 := eq_true p109
                    replace q109 := eq_true q109
                    go_wp2
                    repeat (go_quiet (fail); try go_wp2)
                    go_meet
                    case rel => exact ⟨_, (true), (by first | rfl | (simp; done) | (simp [*]; done)), H', ⟨by have := HK1.out; first | omega | exact Nat.le_refl _⟩, ⟨by (with_reducible repeat (first | apply Kd.R_alloc | apply Kd.R_drewN | apply Kd.R_drew)); exact HO_3.out⟩, ⟨by repeat (first | (with_reducible first | exact HB.out | apply below_alloc | apply pw_below_drewN | apply below_drew1) | exact HB.out)⟩⟩
                  · rw [if_neg c13] at H
                    have c13b0 : (((rd_T28 t102 x52_1).f0).toList == ([] : List UInt8)) = false := beq_eq_false_iff_ne.mpr c13
                    have c13b1 : (((rd_T28 t102 x52_1).f0).toList != ([] : List UInt8)) = true := bne_iff_ne.mpr c13
                    by_cases c14 : (wrap64 ((wrap64 (((rd_T28 t102 x52_1).f1) - 1)) + (((rd_T28 t102 x52_1).f0).size : Int))) > (t101.size : Int)
                    · rw [if_pos c14] at H
                      have c14b0 : decide ((t101.size : Int) < (wrap64 ((wrap64 (((rd_T28 t102 x52_1).f1) - 1)) + (((rd_T28 t102 x52_1).f0).size : Int)))) = true := decide_eq_true c14
                      clear c14
                      have H' := Aside0.mk H
                      clear H
                      have p109 : 0 ≤ (x52_1 : Int) := of_decide_eq_true (by first | (with_reducible assumption) | assumption)
                      have q109 : x52_1 < (t102.length : Int) := of_decide_eq_true (by first | (with_reducible assumption) | assumption)
                      obtain ⟨ad109, e109, hx109_0, hx109_1⟩ := at_T28 (Kd.R_reads' HO_3.out).2.2 x52_1 p109 q109
                      obtain rfl : ad108 = ad109 := (by injection e109)
                      replace p109 := eq_true p109
                      replace q109 := eq_true q109
                      have p110 : 0 ≤ (x52_1 : Int) := of_decide_eq_true (by first | (with_reducible assumption) | assumption)
                      have q110 : x52_1 < (t102.length : Int) := of_decide_eq_true (by first | (with_reducible assumption) | assumption)
                      obtain ⟨ad110, e110, hx110_0, hx110_1⟩ := at_T28 (Kd.R_reads' HO_3.out).2.2 x52_1 p110 q110
                      obtain rfl : ad108 = ad110 := (by injection e110)
                      replace p110 := eq_true p110
                      replace q110 := eq_true q110
                      go_wp2
                      repeat (go_quiet (fail); try go_wp2)
                      go_meet
                      case rel => exact ⟨_, (true), (by first | rfl | (simp; done) | (simp [*]; done)), H', ⟨by have := HK1.out; first | omega | exact Nat.le_refl _⟩, ⟨by (with_reducible repeat (first | apply Kd.R_alloc | apply Kd.R_drewN | apply Kd.R_drew)); exact HO_3.out⟩, ⟨by repeat (first | (with_reducible first | exact HB.out | apply below_alloc | apply pw_below_drewN | apply below_drew1) | exact HB.out)⟩⟩
                    · rw [if_neg c14] at H
                      have c14b0 : decide ((t101.size : Int) < (wrap64 ((wrap64 (((rd_T28 t102 x52_1).f1) - 1)) + (((rd_T28 t102 x52_1).f0).size : Int)))) = false := decide_eq_false c14
                      clear c14
                      obtain ⟨ji15, hji15⟩ : ∃ j_ : Int, (wrap64 (((rd_T28 t102 x52_1).f1) - 1)) = j_ := ⟨_, rfl⟩
                      replace H : (if 0 ≤ (ji15) then (if (ji15) ≤ (wrap64 ((ji15) + (((rd_T28 t102 x52_1).f0).size : Int))) then (if (wrap64 ((ji15) + (((rd_T28 t102 x52_1).f0).size : Int))) ≤ (t101.size : Int) then (if (t101.extract ((ji15) : Int).toNat ((wrap64 ((ji15) + (((rd_T28 t102 x52_1).f0).size : Int))) : Int).toNat).toList = ((rd_T28 t102 x52_1).f0).toList then (if x52_1 > 0 then (imprimaturlaw01_WordsPlaces.j1 k1 t101 t102 x5_1 x6_1 x52_1 ji15 (t102.length : Int) x52_1 ((ji15) == x5_1)) else (imprimaturlaw01_WordsPlaces.j1 k1 t101 t102 x5_1 x6_1 x52_1 ji15 (t102.length : Int) x52_1 false)) else (imprimaturlaw01_WordsPlaces.j1 k1 t101 t102 x5_1 x6_1 x52_1 ji15 (t102.length : Int) x52_1 true)) else (none)) else (none)) else (none)) = some r := by first | (rw [hji15] at H; exact H) | (simp only [hji15] at H ⊢; exact H)
                      (try rw [hji15] at c12b0)
                      (try rw [hji15] at c14b0)
                      have hji15w : (IntKind.i64.wrap (((rd_T28 t102 x52_1).f1) - 1)) = ji15 := (i64_w _).trans hji15
                      by_cases c16 : 0 ≤ (ji15)
                      · rw [if_pos c16] at H
                        have c16b0 := eq_true c16
                        have c16b1 : decide (0 ≤ (ji15)) = true := decide_eq_true c16
                        clear c16
                        by_cases c17 : (ji15) ≤ (wrap64 ((ji15) + (((rd_T28 t102 x52_1).f0).size : Int)))
                        · rw [if_pos c17] at H
                          have c17b0 := eq_true c17
                          have c17b1 : decide ((ji15) ≤ (wrap64 ((ji15) + (((rd_T28 t102 x52_1).f0).size : Int)))) = true := decide_eq_true c17
                          by_cases c18 : (wrap64 ((ji15) + (((rd_T28 t102 x52_1).f0).size : Int))) ≤ (t101.size : Int)
                          · rw [if_pos c18] at H
                            have c18b0 := eq_true c18
                            have c18b1 : decide ((wrap64 ((ji15) + (((rd_T28 t102 x52_1).f0).size : Int))) ≤ (t101.size : Int)) = true := decide_eq_true c18
                            by_cases c19 : (t101.extract ((ji15) : Int).toNat ((wrap64 ((ji15) + (((rd_T28 t102 x52_1).f0).size : Int))) : Int).toNat).toList = ((rd_T28 t102 x52_1).f0).toList
                            · rw [if_pos c19] at H
                              have c19b0 : ((t101.extract ((ji15) : Int).toNat ((wrap64 ((ji15) + (((rd_T28 t102 x52_1).f0).size : Int))) : Int).toNat).toList == ((rd_T28 t102 x52_1).f0).toList) = true := beq_iff_eq.mpr c19
                              have c19b1 : ((t101.extract ((ji15) : Int).toNat ((wrap64 ((ji15) + (((rd_T28 t102 x52_1).f0).size : Int))) : Int).toNat).toList != ((rd_T28 t102 x52_1).f0).toList) = false := bne_eq_false_iff_eq.mpr c19
                              clear c19
                              by_cases c20 : x52_1 > 0
                              · rw [if_pos c20] at H
                                have c20b0 : decide (0 < x52_1) = true := decide_eq_true c20
                                clear c20
                                have H' := Aside0.mk H
                                clear H
                                have p109 : 0 ≤ (x52_1 : Int) := of_decide_eq_true (by first | (with_reducible assumption) | assumption)
                                have q109 : x52_1 < (t102.length : Int) := of_decide_eq_true (by first | (with_reducible assumption) | assumption)
                                obtain ⟨ad109, e109, hx109_0, hx109_1⟩ := at_T28 (Kd.R_reads' HO_3.out).2.2 x52_1 p109 q109
                                obtain rfl : ad108 = ad109 := (by injection e109)
                                replace p109 := eq_true p109
                                replace q109 := eq_true q109
                                have p110 : 0 ≤ (x52_1 : Int) := of_decide_eq_true (by first | (with_reducible assumption) | assumption)
                                have q110 : x52_1 < (t102.length : Int) := of_decide_eq_true (by first | (with_reducible assumption) | assumption)
                                obtain ⟨ad110, e110, hx110_0, hx110_1⟩ := at_T28 (Kd.R_reads' HO_3.out).2.2 x52_1 p110 q110
                                obtain rfl : ad108 = ad110 := (by injection e110)
                                replace p110 := eq_true p110
                                replace q110 := eq_true q110
                                have p111 : 0 ≤ (x52_1 : Int) := of_decide_eq_true (by first | (with_reducible assumption) | assumption)
                                have q111 : x52_1 < (t102.length : Int) := of_decide_eq_true (by first | (with_reducible assumption) | assumption)
                                obtain ⟨ad111, e111, hx111_0, hx111_1⟩ := at_T28 (Kd.R_reads' HO_3.out).2.2 x52_1 p111 q111
                                obtain rfl : ad108 = ad111 := (by injection e111)
                                replace p111 := eq_true p111
                                replace q111 := eq_true q111
                                have p112 : 0 ≤ (x52_1 : Int) := of_decide_eq_true (by first | (with_reducible assumption) | assumption)
                                have q112 : x52_1 < (t102.length : Int) := of_decide_eq_true (by first | (with_reducible assumption) | assumption)
                                obtain ⟨ad112, e112, hx112_0, hx112_1⟩ := at_T28 (Kd.R_reads' HO_3.out).2.2 x52_1 p112 q112
                                obtain rfl : ad108 = ad112 := (by injection e112)
                                replace p112 := eq_true p112
                                replace q112 := eq_true q112
                                go_wp2
                                repeat (go_quiet (fail); try go_wp2)
                                first | go_meet | (simp only [← hji15]; go_meet)
                                case rel => exact ⟨_, (((ji15) == x5_1)), (by first | rfl | (simp; done) | (simp only [← hji15] <;> (first | rfl | simp)) | (simp [*]; done)), (by first | exact H' | exact ⟨by simp only [hji15]; exact H'.out⟩), ⟨by have := HK1.out; first | omega | exact Nat.le_refl _⟩, ⟨by (with_reducible repeat (first | apply Kd.R_alloc | apply Kd.R_drewN | apply Kd.R_drew)); exact HO_3.out⟩, ⟨by repeat (first | (with_reducible first | exact HB.out | apply below_alloc | apply pw_below_drewN | apply below_drew1) | exact HB.out)⟩⟩
                              · rw [if_neg c20] at H
                                have c20b0 : decide (0 < x52_1) = false := decide_eq_false c20
                                clear c20
                                have H' := Aside0.mk H
                                clear H
                                have p109 : 0 ≤ (x52_1 : Int) := of_decide_eq_true (by first | (with_reducible assumption) | assumption)
                                have q109 : x52_1 < (t102.length : Int) := of_decide_eq_true (by first | (with_reducible assumption) | assumption)
                                obtain ⟨ad109, e109, hx109_0, hx109_1⟩ := at_T28 (Kd.R_reads' HO_3.out).2.2 x52_1 p109 q109
                                obtain rfl : ad108 = ad109 := (by injection e109)
                                replace p109 := eq_true p109
                                replace q109 := eq_true q109
                                have p110 : 0 ≤ (x52_1 : Int) := of_decide_eq_true (by first | (with_reducible assumption) | assumption)
                                have q110 : x52_1 < (t102.length : Int) := of_decide_eq_true (by first | (with_reducible assumption) | assumption)
                                obtain ⟨ad110, e110, hx110_0, hx110_1⟩ := at_T28 (Kd.R_reads' HO_3.out).2.2 x52_1 p110 q110
                                obtain rfl : ad108 = ad110 := (by injection e110)
                                replace p110 := eq_true p110
                                replace q110 := eq_true q110
                                have p111 : 0 ≤ (x52_1 : Int) := of_decide_eq_true (by first | (with_reducible assumption) | assumption)
                                have q111 : x52_1 < (t102.length : Int) := of_decide_eq_true (by first | (with_reducible assumption) | assumption)
                                obtain ⟨ad111, e111, hx111_0, hx111_1⟩ := at_T28 (Kd.R_reads' HO_3.out).2.2 x52_1 p111 q111
                                obtain rfl : ad108 = ad111 := (by injection e111)
                                replace p111 := eq_true p111
                                replace q111 := eq_true q111
                                have p112 : 0 ≤ (x52_1 : Int) := of_decide_eq_true (by first | (with_reducible assumption) | assumption)
                                have q112 : x52_1 < (t102.length : Int) := of_decide_eq_true (by first | (with_reducible assumption) | assumption)
                                obtain ⟨ad112, e112, hx112_0, hx112_1⟩ := at_T28 (Kd.R_reads' HO_3.out).2.2 x52_1 p112 q112
                                obtain rfl : ad108 = ad112 := (by injection e112)
                                replace p112 := eq_true p112
                                replace q112 := eq_true q112
                                go_wp2
                                repeat (go_quiet (fail); try go_wp2)
                                first | go_meet | (simp only [← hji15]; go_meet)
                                case rel => exact ⟨_, (false), (by first | rfl | (simp; done) | (simp [*]; done)), (by first | exact H' | exact ⟨by simp only [hji15]; exact H'.out⟩), ⟨by have := HK1.out; first | omega | exact Nat.le_refl _⟩, ⟨by (with_reducible repeat (first | apply Kd.R_alloc | apply Kd.R_drewN | apply Kd.R_drew)); exact HO_3.out⟩, ⟨by repeat (first | (with_reducible first | exact HB.out | apply below_alloc | apply pw_below_drewN | apply below_drew1) | exact HB.out)⟩⟩
                            · rw [if_neg c19] at H
                              have c19b0 : ((t101.extract ((ji15) : Int).toNat ((wrap64 ((ji15) + (((rd_T28 t102 x52_1).f0).size : Int))) : Int).toNat).toList == ((rd_T28 t102 x52_1).f0).toList) = false := beq_eq_false_iff_ne.mpr c19
                              have c19b1 : ((t101.extract ((ji15) : Int).toNat ((wrap64 ((ji15) + (((rd_T28 t102 x52_1).f0).size : Int))) : Int).toNat).toList != ((rd_T28 t102 x52_1).f0).toList) = true := bne_iff_ne.mpr c19
                              have H' := Aside0.mk H
                              clear H
                              have p109 : 0 ≤ (x52_1 : Int) := of_decide_eq_true (by first | (with_reducible assumption) | assumption)
                              have q109 : x52_1 < (t102.length : Int) := of_decide_eq_true (by first | (with_reducible assumption) | assumption)
                              obtain ⟨ad109, e109, hx109_0, hx109_1⟩ := at_T28 (Kd.R_reads' HO_3.out).2.2 x52_1 p109 q109
                              obtain rfl : ad108 = ad109 := (by injection e109)
                              replace p109 := eq_true p109
                              replace q109 := eq_true q109
                              have p110 : 0 ≤ (x52_1 : Int) := of_decide_eq_true (by first | (with_reducible assumption) | assumption)
                              have q110 : x52_1 < (t102.length : Int) := of_decide_eq_true (by first | (with_reducible assumption) | assumption)
                              obtain ⟨ad110, e110, hx110_0, hx110_1⟩ := at_T28 (Kd.R_reads' HO_3.out).2.2 x52_1 p110 q110
                              obtain rfl : ad108 = ad110 := (by injection e110)
                              replace p110 := eq_true p110
                              replace q110 := eq_true q110
                              have p111 : 0 ≤ (x52_1 : Int) := of_decide_eq_true (by first | (with_reducible assumption) | assumption)
                              have q111 : x52_1 < (t102.length : Int) := of_decide_eq_true (by first | (with_reducible assumption) | assumption)
                              obtain ⟨ad111, e111, hx111_0, hx111_1⟩ := at_T28 (Kd.R_reads' HO_3.out).2.2 x52_1 p111 q111
                              obtain rfl : ad108 = ad111 := (by injection e111)
                              replace p111 := eq_true p111
                              replace q111 := eq_true q111
                              have p112 : 0 ≤ (x52_1 : Int) := of_decide_eq_true (by first | (with_reducible assumption) | assumption)
                              have q112 : x52_1 < (t102.length : Int) := of_decide_eq_true (by first | (with_reducible assumption) | assumption)
                              obtain ⟨ad112, e112, hx112_0, hx112_1⟩ := at_T28 (Kd.R_reads' HO_3.out).2.2 x52_1 p112 q112
                              obtain rfl : ad108 = ad112 := (by injection e112)
                              replace p112 := eq_true p112
                              replace q112 := eq_true q112
                              go_wp2
                              repeat (go_quiet (fail); try go_wp2)
                              first | go_meet | (simp only [← hji15]; go_meet)
                              case rel => exact ⟨_, (true), (by first | rfl | (simp; done) | (simp [*]; done)), (by first | exact H' | exact ⟨by simp only [hji15]; exact H'.out⟩), ⟨by have := HK1.out; first | omega | exact Nat.le_refl _⟩, ⟨by (with_reducible repeat (first | apply Kd.R_alloc | apply Kd.R_drewN | apply Kd.R_drew)); exact HO_3.out⟩, ⟨by repeat (first | (with_reducible first | exact HB.out | apply below_alloc | apply pw_below_drewN | apply below_drew1) | exact HB.out)⟩⟩
                          · rw [if_neg c18] at H
                            exact absurd H (by simp)
                        · rw [if_neg c17] at H
                          exact absurd H (by simp)
                      · rw [if_neg c16] at H
                        exact absurd H (by simp)
              case rest =>
                clear HC11
                try clear c1
                try clear p1
                try clear q1
                try clear hx1
                try clear c2
                try clear p2
                try clear c4
                try clear c4b0
                try clear c4b1
                try clear c5
                try clear p6
                try clear c8
                try clear c8b0
                try clear c9
                try clear c9b0
                try clear c10
                try clear c10b0
                try clear p10
                try clear q10
                try clear hx10
                try clear p11
                try clear q11
                try clear hx11
                try clear c12
                try clear c12b0
                try clear c13
                try clear c13b0
                try clear c13b1
                try clear c14
                try clear c14b0
                try clear c16
                try clear c16b0
                try clear c16b1
                try clear c17
                try clear c17b0
                try clear c17b1
                try clear c18
                try clear c18b0
                try clear c18b1
                try clear c19
                try clear c19b0
                try clear c19b1
                try clear c20
                try clear c20b0
                try clear hx108_0
                try clear hx108_1
                try clear hx109_0
                try clear hx109_1
                try clear hx110_0
                try clear hx110_1
                try clear hx111_0
                try clear hx111_1
                try clear hx112_0
                try clear hx112_1
                try clear p108
                try clear p109
                try clear p110
                try clear p111
                try clear p112
                try clear p2
                try clear p6
                try clear q108
                try clear q109
                try clear q110
                try clear q111
                try clear q112
                obtain ⟨kq, x112_10, rfl, HA, HJ10, HO_3, HB⟩ := hcut
                cases kq with
                | zero => exact absurd HA.out (by simp [imprimaturlaw01_WordsPlaces.j1])
                | succ kj10 =>
                  have H := HA.out
                  clear HA
                  simp only [imprimaturlaw01_WordsPlaces.j1] at H
                  by_cases c21 : x112_10 = true
                  · subst c21
                    have H1 : (some false) = some r := by rw [if_pos rfl] at H; exact H
                    clear H
                    have H := H1
                    clear H1
                    obtain rfl := Option.some.inj H
                    go_wp2
                    repeat (go_quiet (fail); try go_wp2)
                    go_ret
                    exact ⟨by first | rfl | (simp [errW_none, errW_some] <;> rfl) | (simp [*, errW_none, errW_some] <;> rfl), by repeat (first | (with_reducible first | exact HB.out | apply below_alloc | apply pw_below_drewN | apply below_drew1) | exact HB.out)⟩
                  · replace c21 := Bool.eq_false_iff.mpr c21
                    subst c21
                    have H1 : (imprimaturlaw01_WordsPlaces.l1 kj10 t101 t102 x6_1 x52_1 (wrap64 (((rd_T28 t102 x52_1).f1) - 1)) x5_1 (t102.length : Int) x52_1) = some r := by rw [if_neg (show ¬ (false = true) by decide)] at H; exact H
                    clear H
                    have H := H1
                    clear H1
                    have H' := Aside0.mk H
                    clear H
                    go_wp2
                    repeat (go_quiet (fail); try go_wp2)
                    go_loopg [9] kj10 (fun kq v9 w' => ∃ (x9_3 : Int), v9 = .int .i64 x9_3 ∧ Aside0 (imprimaturlaw01_WordsPlaces.l1 kq t101 t102 x6_1 x52_1 (wrap64 (((rd_T28 t102 x52_1).f1) - 1)) x9_3 (t102.length : Int) x52_1 = some r) ∧ Aside0 (kq ≤ kj10) ∧ Aside0 (Kd.R k28 28 w' w.heap.size (fun _ => True) (.slice (some ad108) t102.length co7) t102) ∧ Aside0 (Below w.heap.size w w'))
                    case atStart => exact ⟨(x5_1), (by first | rfl | (simp; done) | (simp [*]; done)), H', ⟨Nat.le_refl _⟩, ⟨by (with_reducible repeat (first | apply Kd.R_alloc | apply Kd.R_drewN | apply Kd.R_drew)); exact HO_3.out⟩, ⟨by repeat (first | (with_reducible first | exact HB.out | apply below_alloc | apply pw_below_drewN | apply below_drew1) | exact HB.out)⟩⟩
                    case round =>
                      clear H'
                      try clear c1
                      try clear p1
                      try clear q1
                      try clear hx1
                      try clear c2
                      try clear p2
                      try clear c4
                      try clear c4b0
                      try clear c4b1
                      try clear c5
                      try clear p6
                      try clear c8
                      try clear c8b0
                      try clear c9
                      try clear c9b0
                      try clear c10
                      try clear c10b0
                      try clear p10
                      try clear q10
                      try clear hx10
                      try clear p11
                      try clear q11
                      try clear hx11
                      try clear c12
                      try clear c12b0
                      try clear c13
                      try clear c13b0
                      try clear c13b1
                      try clear c14
                      try clear c14b0
                      try clear c16
                      try clear c16b0
                      try clear c16b1
                      try clear c17
                      try clear c17b0
                      try clear c17b1
                      try clear c18
                      try clear c18b0
                      try clear c18b1
                      try clear c19
                      try clear c19b0
                      try clear c19b1
                      try clear c20
                      try clear c20b0
                      try clear c21
                      try clear hx108_0
                      try clear hx108_1
                      try clear hx109_0
                      try clear hx109_1
                      try clear hx110_0
                      try clear hx110_1
                      try clear hx111_0
                      try clear hx111_1
                      try clear hx112_0
                      try clear hx112_1
                      try clear p1
                      try clear p10
                      try clear p108
                      try clear p109
                      try clear p11
                      try clear p110
                      try clear p111
                      try clear p112
                      try clear p2
                      try clear p6
                      try clear q1
                      try clear q10
                      try clear q108
                      try clear q109
                      try clear q11
                      try clear q110
                      try clear q111
                      try clear q112
                      obtain ⟨x9_3, rfl, HA, HK3, HO_3, HB⟩ := hrel
                      cases gk with
                      | zero => exact absurd HA.out (by simp [imprimaturlaw01_WordsPlaces.l1])
                      | succ k3 =>
                        have H := HA.out
                        clear HA
                        simp only [imprimaturlaw01_WordsPlaces.l1] at H
                        by_cases c22 : x9_3 < (wrap64 (((rd_T28 t102 x52_1).f1) - 1))
                        · rw [if_pos c22] at H
                          have c22b0 : decide (x9_3 < (wrap64 (((rd_T28 t102 x52_1).f1) - 1))) = true := decide_eq_true c22
                          clear c22
                          by_cases c23 : 0 ≤ x9_3
                          · rw [if_pos c23] at H
                            have c23b0 : decide (0 ≤ x9_3) = true := decide_eq_true c23
                            clear c23
                            by_cases c24 : x9_3 < (t101.size : Int)
                            · rw [if_pos c24] at H
                              have c24b0 : decide (x9_3 < (t101.size : Int)) = true := decide_eq_true c24
                              clear c24
                              by_cases c26 : (bt t101 x9_3) = 32
                              · rw [if_pos c26] at H
                                have c26b0 : ((bt t101 x9_3) == 32) = true := beq_iff_eq.mpr c26
                                have c26b1 : ((bt t101 x9_3) != 32) = false := bne_eq_false_iff_eq.mpr c26
                                clear c26
                                have H' := Aside0.mk H
                                clear H
                                have p25 : 0 ≤ (x9_3 : Int) := of_decide_eq_true (by first | (with_reducible assumption) | assumption)
                                have q25 : x9_3 < (t101.size : Int) := of_decide_eq_true (by first | (with_reducible assumption) | assumption)
                                have hx25 := bt_at t101 x9_3
                                replace p25 := eq_true p25
                                replace q25 := eq_true q25
                                go_wp2
                                repeat (go_quiet (fail); try go_wp2)
                                go_roundg k3
                                case measure => have := HK1.out; have := HJ10.out; have := HK3.out; omega
                                case rel => exact ⟨(wrap64 (x9_3 + 1)), (by first | rfl | (simp; done) | (simp [*]; done)), H', ⟨by have := HK1.out; have := HJ10.out; have := HK3.out; omega⟩, ⟨by (with_reducible repeat (first | apply Kd.R_alloc | apply Kd.R_drewN | apply Kd.R_drew)); exact HO_3.out⟩, ⟨by repeat (first | (with_reducible first | exact HB.out | apply below_alloc | apply pw_below_drewN | apply below_drew1) | exact HB.out)⟩⟩
                              · rw [if_neg c26] at H
                                have c26b0 : ((bt t101 x9_3) == 32) = false := beq_eq_false_iff_ne.mpr c26
                                have c26b1 : ((bt t101 x9_3) != 32) = true := bne_iff_ne.mpr c26
                                obtain rfl := Option.some.inj H
                                have p25 : 0 ≤ (x9_3 : Int) := of_decide_eq_true (by first | (with_reducible assumption) | assumption)
                                have q25 : x9_3 < (t101.size : Int) := of_decide_eq_true (by first | (with_reducible assumption) | assumption)
                                have hx25 := bt_at t101 x9_3
                                replace p25 := eq_true p25
                                replace q25 := eq_true q25
                                go_wp2
                                repeat (go_quiet (fail); try go_wp2)
                                go_ret
                                exact ⟨by first | rfl | (simp [errW_none, errW_some] <;> rfl) | (simp [*, errW_none, errW_some] <;> rfl), by repeat (first | (with_reducible first | exact HB.out | apply below_alloc | apply pw_below_drewN | apply below_drew1) | exact HB.out)⟩
                            · rw [if_neg c24] at H
                              exact absurd H (by simp)
                          · rw [if_neg c23] at H
                            exact absurd H (by simp)
                        · rw [if_neg c22] at H
                          have c22b0 : decide (x9_3 < (wrap64 (((rd_T28 t102 x52_1).f1) - 1))) = false := decide_eq_false c22
                          clear c22
                          have H' := Aside0.mk H
                          clear H
                          go_wp2
                          repeat (go_quiet (fail); try go_wp2)
                          go_loopg [10] k3 (fun kq v10 w' => ∃ (x10_4 : Int), v10 = .int .i64 x10_4 ∧ Aside0 (imprimaturlaw01_WordsPlaces.l2 kq t101 t102 x6_1 x52_1 (wrap64 (((rd_T28 t102 x52_1).f1) - 1)) x10_4 (t102.length : Int) x52_1 = some r) ∧ Aside0 (kq ≤ k3) ∧ Aside0 (Kd.R k28 28 w' w.heap.size (fun _ => True) (.slice (some ad108) t102.length co7) t102) ∧ Aside0 (Below w.heap.size w w'))
                          case atStart => exact ⟨(0), (by first | rfl | (simp; done) | (simp [*]; done)), H', ⟨Nat.le_refl _⟩, ⟨by (with_reducible repeat (first | apply Kd.R_alloc | apply Kd.R_drewN | apply Kd.R_drew)); exact HO_3.out⟩, ⟨by repeat (first | (with_reducible first | exact HB.out | apply below_alloc | apply pw_below_drewN | apply below_drew1) | exact HB.out)⟩⟩
                          case round =>
                            clear H'
                            try clear c1
                            try clear p1
                            try clear q1
                            try clear hx1
                            try clear c2
                            try clear p2
                            try clear q2
                            try clear hx2
                            try clear c4
                            try clear c4b0
                            try clear c4b1
                            try clear c5
                            try clear p6
                            try clear c8
                            try clear c8b0
                            try clear c9
                            try clear c9b0
                            try clear c10
                            try clear c10b0
                            try clear p10
                            try clear q10
                            try clear hx10
                            try clear p11
                            try clear q11
                            try clear hx11
                            try clear c12
                            try clear c12b0
                            try clear c13
                            try clear c13b0
                            try clear c13b1
                            try clear c14
                            try clear c14b0
                            try clear c16
                            try clear c16b0
                            try clear c16b1
                            try clear c17
                            try clear c17b0
                            try clear c17b1
                            try clear c18
                            try clear c18b0
                            try clear c18b1
                            try clear c19
                            try clear c19b0
                            try clear c19b1
                            try clear c20
                            try clear c20b0
                            try clear c21
                            try clear c22
                            try clear c22b0
                            try clear c23
                            try clear c23b0
                            try clear c24
                            try clear c24b0
                            try clear p25
                            try clear q25
                            try clear hx25
                            try clear c26
                            try clear c26b0
                            try clear c26b1
                            try clear hx108_0
                            try clear hx108_1
                            try clear hx109_0
                            try clear hx109_1
                            try clear hx110_0
                            try clear hx110_1
                            try clear hx111_0
                            try clear hx111_1
                            try clear hx112_0
                            try clear hx112_1
                            try clear p1
                            try clear p10
                            try clear p108
                            try clear p109
                            try clear p11
                            try clear p110
                            try clear p111
                            try clear p112
                            try clear p2
                            try clear p25
                            try clear p6
                            try clear q1
                            try clear q10
                            try clear q108
                            try clear q109
                            try clear q11
                            try clear q110
                            try clear q111
                            try clear q112
                            try clear q25
                            obtain ⟨x10_4, rfl, HA, HK4, HO_3, HB⟩ := hrel
                            cases gk with
                            | zero => exact absurd HA.out (by simp [imprimaturlaw01_WordsPlaces.l2])
                            | succ k4 =>
                              have H := HA.out
                              clear HA
                              simp only [imprimaturlaw01_WordsPlaces.l2] at H
                              by_cases c27 : 0 ≤ x52_1
                              · rw [if_pos c27] at H
                                have c27b0 : decide (0 ≤ x52_1) = true := decide_eq_true c27
                                clear c27
                                by_cases c28 : x52_1 < (t102.length : Int)
                                · rw [if_pos c28] at H
                                  have c28b0 : decide (x52_1 < (t102.length : Int)) = true := decide_eq_true c28
                                  clear c28
                                  by_cases c29 : x10_4 < (((rd_T28 t102 x52_1).f0).size : Int)
                                  · rw [if_pos c29] at H
                                    have c29b0 : decide (x10_4 < (((rd_T28 t102 x52_1).f0).size : Int)) = true := decide_eq_true c29
                                    clear c29
                                    by_cases c30 : 0 ≤ x10_4
                                    · rw [if_pos c30] at H
                                      have c30b0 : decide (0 ≤ x10_4) = true := decide_eq_true c30
                                      clear c30
                                      by_cases c32 : (bt ((rd_T28 t102 x52_1).f0) x10_4) = 32
                                      · rw [if_pos c32] at H
                                        have c32b0 : ((bt ((rd_T28 t102 x52_1).f0) x10_4) == 32) = true := beq_iff_eq.mpr c32
                                        have c32b1 : ((bt ((rd_T28 t102 x52_1).f0) x10_4) != 32) = false := bne_eq_false_iff_eq.mpr c32
                                        clear c32
                                        obtain rfl := Option.some.inj H
                                        have p113 : 0 ≤ (x52_1 : Int) := of_decide_eq_true (by first | (with_reducible assumption) | assumption)
                                        have q113 : x52_1 < (t102.length : Int) := of_decide_eq_true (by first | (with_reducible assumption) | assumption)
                                        obtain ⟨ad113, e113, hx113_0, hx113_1⟩ := at_T28 (Kd.R_reads' HO_3.out).2.2 x52_1 p113 q113
                                        obtain rfl : ad108 = ad113 := (by injection e113)
                                        replace p113 := eq_true p113
                                        replace q113 := eq_true q113
                                        have p114 : 0 ≤ (x52_1 : Int) := of_decide_eq_true (by first | (with_reducible assumption) | assumption)
                                        have q114 : x52_1 < (t102.length : Int) := of_decide_eq_true (by first | (with_reducible assumption) | assumption)
                                        obtain ⟨ad114, e114, hx114_0, hx114_1⟩ := at_T28 (Kd.R_reads' HO_3.out).2.2 x52_1 p114 q114
                                        obtain rfl : ad108 = ad114 := (by injection e114)
                                        replace p114 := eq_true p114
                                        replace q114 := eq_true q114
                                        have p31 : 0 ≤ (x10_4 : Int) := of_decide_eq_true (by first | (with_reducible assumption) | assumption)
                                        have q31 : x10_4 < (((rd_T28 t102 x52_1).f0).size : Int) := of_decide_eq_true (by first | (with_reducible assumption) | assumption)
                                        have hx31 := bt_at ((rd_T28 t102 x52_1).f0) x10_4
                                        replace p31 := eq_true p31
                                        replace q31 := eq_true q31
                                        go_wp2
                                        repeat (go_quiet (fail); try go_wp2)
                                        go_ret
                                        exact ⟨by first | rfl | (simp [errW_none, errW_some] <;> rfl) | (simp [*, errW_none, errW_some] <;> rfl), by repeat (first | (with_reducible first | exact HB.out | apply below_alloc | apply pw_below_drewN | apply below_drew1) | exact HB.out)⟩
                                      · rw [if_neg c32] at H
                                        have c32b0 : ((bt ((rd_T28 t102 x52_1).f0) x10_4) == 32) = false := beq_eq_false_iff_ne.mpr c32
                                        have c32b1 : ((bt ((rd_T28 t102 x52_1).f0) x10_4) != 32) = true := bne_iff_ne.mpr c32
                                        by_cases c34 : (bt ((rd_T28 t102 x52_1).f0) x10_4) = 35
                                        · rw [if_pos c34] at H
                                          have c34b0 : ((bt ((rd_T28 t102 x52_1).f0) x10_4) == 35) = true := beq_iff_eq.mpr c34
                                          have c34b1 : ((bt ((rd_T28 t102 x52_1).f0) x10_4) != 35) = false := bne_eq_false_iff_eq.mpr c34
                                          clear c34
                                          obtain rfl := Option.some.inj H
                                          have p113 : 0 ≤ (x52_1 : Int) := of_decide_eq_true (by first | (with_reducible assumption) | assumption)
                                          have q113 : x52_1 < (t102.length : Int) := of_decide_eq_true (by first | (with_reducible assumption) | assumption)
                                          obtain ⟨ad113, e113, hx113_0, hx113_1⟩ := at_T28 (Kd.R_reads' HO_3.out).2.2 x52_1 p113 q113
                                          obtain rfl : ad108 = ad113 := (by injection e113)
                                          replace p113 := eq_true p113
                                          replace q113 := eq_true q113
                                          have p114 : 0 ≤ (x52_1 : Int) := of_decide_eq_true (by first | (with_reducible assumption) | assumption)
                                          have q114 : x52_1 < (t102.length : Int) := of_decide_eq_true (by first | (with_reducible assumption) | assumption)
                                          obtain ⟨ad114, e114, hx114_0, hx114_1⟩ := at_T28 (Kd.R_reads' HO_3.out).2.2 x52_1 p114 q114
                                          obtain rfl : ad108 = ad114 := (by injection e114)
                                          replace p114 := eq_true p114
                                          replace q114 := eq_true q114
                                          have p31 : 0 ≤ (x10_4 : Int) := of_decide_eq_true (by first | (with_reducible assumption) | assumption)
                                          have q31 : x10_4 < (((rd_T28 t102 x52_1).f0).size : Int) := of_decide_eq_true (by first | (with_reducible assumption) | assumption)
                                          have hx31 := bt_at ((rd_T28 t102 x52_1).f0) x10_4
                                          replace p31 := eq_true p31
                                          replace q31 := eq_true q31
                                          have p115 : 0 ≤ (x52_1 : Int) := of_decide_eq_true (by first | (with_reducible assumption) | assumption)
                                          have q115 : x52_1 < (t102.length : Int) := of_decide_eq_true (by first | (with_reducible assumption) | assumption)
                                          obtain ⟨ad115, e115, hx115_0, hx115_1⟩ := at_T28 (Kd.R_reads' HO_3.out).2.2 x52_1 p115 q115
                                          obtain rfl : ad108 = ad115 := (by injection e115)
                                          replace p115 := eq_true p115
                                          replace q115 := eq_true q115
                                          have p33 : 0 ≤ (x10_4 : Int) := of_decide_eq_true (by first | (with_reducible assumption) | assumption)
                                          have q33 : x10_4 < (((rd_T28 t102 x52_1).f0).size : Int) := of_decide_eq_true (by first | (with_reducible assumption) | assumption)
                                          have hx33 := bt_at ((rd_T28 t102 x52_1).f0) x10_4
                                          replace p33 := eq_true p33
                                          replace q33 := eq_true q33
                                          go_wp2
                                          repeat (go_quiet (fail); try go_wp2)
                                          go_ret
                                          exact ⟨by first | rfl | (simp [errW_none, errW_some] <;> rfl) | (simp [*, errW_none, errW_some] <;> rfl), by repeat (first | (with_reducible first | exact HB.out | apply below_alloc | apply pw_below_drewN | apply below_drew1) | exact HB.out)⟩
                                        · rw [if_neg c34] at H
                                          have c34b0 : ((bt ((rd_T28 t102 x52_1).f0) x10_4) == 35) = false := beq_eq_false_iff_ne.mpr c34
                                          have c34b1 : ((bt ((rd_T28 t102 x52_1).f0) x10_4) != 35) = true := bne_iff_ne.mpr c34
                                          have H' := Aside0.mk H
                                          clear H
                                          have p113 : 0 ≤ (x52_1 : Int) := of_decide_eq_true (by first | (with_reducible assumption) | assumption)
                                          have q113 : x52_1 < (t102.length : Int) := of_decide_eq_true (by first | (with_reducible assumption) | assumption)
                                          obtain ⟨ad113, e113, hx113_0, hx113_1⟩ := at_T28 (Kd.R_reads' HO_3.out).2.2 x52_1 p113 q113
                                          obtain rfl : ad108 = ad113 := (by injection e113)
                                          replace p113 := eq_true p113
                                          replace q113 := eq_true q113
                                          have p114 : 0 ≤ (x52_1 : Int) := of_decide_eq_true (by first | (with_reducible assumption) | assumption)
                                          have q114 : x52_1 < (t102.length : Int) := of_decide_eq_true (by first | (with_reducible assumption) | assumption)
                                          obtain ⟨ad114, e114, hx114_0, hx114_1⟩ := at_T28 (Kd.R_reads' HO_3.out).2.2 x52_1 p114 q114
                                          obtain rfl : ad108 = ad114 := (by injection e114)
                                          replace p114 := eq_true p114
                                          replace q114 := eq_true q114
                                          have p31 : 0 ≤ (x10_4 : Int) := of_decide_eq_true (by first | (with_reducible assumption) | assumption)
                                          have q31 : x10_4 < (((rd_T28 t102 x52_1).f0).size : Int) := of_decide_eq_true (by first | (with_reducible assumption) | assumption)
                                          have hx31 := bt_at ((rd_T28 t102 x52_1).f0) x10_4
                                          replace p31 := eq_true p31
                                          replace q31 := eq_true q31
                                          have p115 : 0 ≤ (x52_1 : Int) := of_decide_eq_true (by first | (with_reducible assumption) | assumption)
                                          have q115 : x52_1 < (t102.length : Int) := of_decide_eq_true (by first | (with_reducible assumption) | assumption)
                                          obtain ⟨ad115, e115, hx115_0, hx115_1⟩ := at_T28 (Kd.R_reads' HO_3.out).2.2 x52_1 p115 q115
                                          obtain rfl : ad108 = ad115 := (by injection e115)
                                          replace p115 := eq_true p115
                                          replace q115 := eq_true q115
                                          have p33 : 0 ≤ (x10_4 : Int) := of_decide_eq_true (by first | (with_reducible assumption) | assumption)
                                          have q33 : x10_4 < (((rd_T28 t102 x52_1).f0).size : Int) := of_decide_eq_true (by first | (with_reducible assumption) | assumption)
                                          have hx33 := bt_at ((rd_T28 t102 x52_1).f0) x10_4
                                          replace p33 := eq_true p33
                                          replace q33 := eq_true q33
                                          go_wp2
                                          repeat (go_quiet (fail); try go_wp2)
                                          go_roundg k4
                                          case measure => have := HK1.out; have := HJ10.out; have := HK3.out; have := HK4.out; omega
                                          case rel => exact ⟨(wrap64 (x10_4 + 1)), (by first | rfl | (simp; done) | (simp [*]; done)), H', ⟨by have := HK1.out; have := HJ10.out; have := HK3.out; have := HK4.out; omega⟩, ⟨by (with_reducible repeat (first | apply Kd.R_alloc | apply Kd.R_drewN | apply Kd.R_drew)); exact HO_3.out⟩, ⟨by repeat (first | (with_reducible first | exact HB.out | apply below_alloc | apply pw_below_drewN | apply below_drew1) | exact HB.out)⟩⟩
                                    · rw [if_neg c30] at H
                                      exact absurd H (by simp)
                                  · rw [if_neg c29] at H
                                    have c29b0 : decide (x10_4 < (((rd_T28 t102 x52_1).f0).size : Int)) = false := decide_eq_false c29
                                    clear c29
                                    have H' := Aside0.mk H
                                    clear H
                                    have p113 : 0 ≤ (x52_1 : Int) := of_decide_eq_true (by first | (with_reducible assumption) | assumption)
                                    have q113 : x52_1 < (t102.length : Int) := of_decide_eq_true (by first | (with_reducible assumption) | assumption)
                                    obtain ⟨ad113, e113, hx113_0, hx113_1⟩ := at_T28 (Kd.R_reads' HO_3.out).2.2 x52_1 p113 q113
                                    obtain rfl : ad108 = ad113 := (by injection e113)
                                    replace p113 := eq_true p113
                                    replace q113 := eq_true q113
                                    have p116 : 0 ≤ (x52_1 : Int) := of_decide_eq_true (by first | (with_reducible assumption) | assumption)
                                    have q116 : x52_1 < (t102.length : Int) := of_decide_eq_true (by first | (with_reducible assumption) | assumption)
                                    obtain ⟨ad116, e116, hx116_0, hx116_1⟩ := at_T28 (Kd.R_reads' HO_3.out).2.2 x52_1 p116 q116
                                    obtain rfl : ad108 = ad116 := (by injection e116)
                                    replace p116 := eq_true p116
                                    replace q116 := eq_true q116
                                    go_wp2
                                    repeat (go_quiet (fail); try go_wp2)
                                    go_roundg k4
                                    case measure => have := HK1.out; have := HJ10.out; have := HK3.out; have := HK4.out; omega
                                    case rel => exact ⟨(wrap64 ((wrap64 (((rd_T28 t102 x52_1).f1) - 1)) + (((rd_T28 t102 x52_1).f0).size : Int))), (wrap64 (x6_1 + 1)), (wrap64 (x52_1 + 1)), (by first | rfl | (simp; done) | (simp [*]; done)), (by first | rfl | (simp; done) | (simp [*]; done)), (by first | rfl | (simp; done) | (simp [*]; done)), H', ⟨by have := HK1.out; have := HJ10.out; have := HK3.out; have := HK4.out; omega⟩, ⟨by (with_reducible repeat (first | apply Kd.R_alloc | apply Kd.R_drewN | apply Kd.R_drew)); exact HO_3.out⟩, ⟨by repeat (first | (with_reducible first | exact HB.out | apply below_alloc | apply pw_below_drewN | apply below_drew1) | exact HB.out)⟩⟩
                                · rw [if_neg c28] at H
                                  exact absurd H (by simp)
                              · rw [if_neg c27] at H
                                exact absurd H (by simp)
            · rw [if_neg c10] at H
              exact absurd H (by simp)
          · rw [if_neg c9] at H
            exact absurd H (by simp)
        · rw [if_neg c8] at H
          have c8b0 : decide (x52_1 < (t102.length : Int)) = false := decide_eq_false c8
          clear c8
          have H' := Aside0.mk H
          clear H
          go_wp2
          repeat (go_quiet (fail); try go_wp2)
          go_loopg [5] k1 (fun kq v5 w' => ∃ (x5_2 : Int), v5 = .int .i64 x5_2 ∧ Aside0 (imprimaturlaw01_WordsPlaces.l3 kq t101 x5_2 x6_1 = some r) ∧ Aside0 (kq ≤ k1) ∧ Aside0 (Below w.heap.size w w'))
          case atStart => exact ⟨(x5_1), (by first | rfl | (simp; done) | (simp [*]; done)), H', ⟨Nat.le_refl _⟩, ⟨by repeat (first | (with_reducible first | exact HB.out | apply below_alloc | apply pw_below_drewN | apply below_drew1) | exact HB.out)⟩⟩
          case round =>
            clear H'
            try clear c1
            try clear p1
            try clear q1
            try clear hx1
            try clear c2
            try clear p2
            try clear q2
            try clear hx2
            try clear c3
            try clear p3
            try clear q3
            try clear hx3
            try clear c4
            try clear c4b0
            try clear c4b1
            try clear c5
            try clear p6
            try clear c8
            try clear c8b0
            try clear c9
            try clear c9b0
            try clear c10
            try clear c10b0
            try clear p10
            try clear q10
            try clear hx10
            try clear p11
            try clear q11
            try clear hx11
            try clear c12
            try clear c12b0
            try clear c13
            try clear c13b0
            try clear c13b1
            try clear c14
            try clear c14b0
            try clear c16
            try clear c16b0
            try clear c16b1
            try clear c17
            try clear c17b0
            try clear c17b1
            try clear c18
            try clear c18b0
            try clear c18b1
            try clear c19
            try clear c19b0
            try clear c19b1
            try clear c20
            try clear c20b0
            try clear c21
            try clear c22
            try clear c22b0
            try clear c23
            try clear c23b0
            try clear c24
            try clear c24b0
            try clear p25
            try clear q25
            try clear hx25
            try clear c26
            try clear c26b0
            try clear c26b1
            try clear c27
            try clear c27b0
            try clear c28
            try clear c28b0
            try clear c29
            try clear c29b0
            try clear c30
            try clear c30b0
            try clear p31
            try clear q31
            try clear hx31
            try clear c32
            try clear c32b0
            try clear c32b1
            try clear p33
            try clear q33
            try clear hx33
            try clear c34
            try clear c34b0
            try clear c34b1
            try clear hx108_0
            try clear hx108_1
            try clear hx109_0
            try clear hx109_1
            try clear hx110_0
            try clear hx110_1
            try clear hx111_0
            try clear hx111_1
            try clear hx112_0
            try clear hx112_1
            try clear hx113_0
            try clear hx113_1
            try clear hx114_0
            try clear hx114_1
            try clear hx115_0
            try clear hx115_1
            try clear hx116_0
            try clear hx116_1
            try clear p1
            try clear p10
            try clear p108
            try clear p109
            try clear p11
            try clear p110
            try clear p111
            try clear p112
            try clear p113
            try clear p114
            try clear p115
            try clear p116
            try clear p2
            try clear p25
            try clear p31
            try clear p33
            try clear p6
            try clear q1
            try clear q10
            try clear q108
            try clear q109
            try clear q11
            try clear q110
            try clear q111
            try clear q112
            try clear q113
            try clear q114
            try clear q115
            try clear q116
            try clear q2
            try clear q25
            try clear q31
            try clear q33
            obtain ⟨x5_2, rfl, HA, HK2, HB⟩ := hrel
            cases gk with
            | zero => exact absurd HA.out (by simp [imprimaturlaw01_WordsPlaces.l3])
            | succ k2 =>
              have H := HA.out
              clear HA
              simp only [imprimaturlaw01_WordsPlaces.l3] at H
              by_cases c35 : x5_2 < (t101.size : Int)
              · rw [if_pos c35] at H
                have c35b0 : decide (x5_2 < (t101.size : Int)) = true := decide_eq_true c35
                clear c35
                by_cases c36 : 0 ≤ x5_2
                · rw [if_pos c36] at H
                  have c36b0 : decide (0 ≤ x5_2) = true := decide_eq_true c36
                  clear c36
                  by_cases c38 : (bt t101 x5_2) = 32
                  · rw [if_pos c38] at H
                    have c38b0 : ((bt t101 x5_2) == 32) = true := beq_iff_eq.mpr c38
                    have c38b1 : ((bt t101 x5_2) != 32) = false := bne_eq_false_iff_eq.mpr c38
                    clear c38
                    have H' := Aside0.mk H
                    clear H
                    have p37 : 0 ≤ (x5_2 : Int) := of_decide_eq_true (by first | (with_reducible assumption) | assumption)
                    have q37 : x5_2 < (t101.size : Int) := of_decide_eq_true (by first | (with_reducible assumption) | assumption)
                    have hx37 := bt_at t101 x5_2
                    replace p37 := eq_true p37
                    replace q37 := eq_true q37
                    go_wp2
                    repeat (go_quiet (fail); try go_wp2)
                    go_roundg k2
                    case measure => have := HK1.out; have := HK2.out; omega
                    case rel => exact ⟨(wrap64 (x5_2 + 1)), (by first | rfl | (simp; done) | (simp [*]; done)), H', ⟨by have := HK1.out; have := HK2.out; omega⟩, ⟨by repeat (first | (with_reducible first | exact HB.out | apply below_alloc | apply pw_below_drewN | apply below_drew1) | exact HB.out)⟩⟩
                  · rw [if_neg c38] at H
                    have c38b0 : ((bt t101 x5_2) == 32) = false := beq_eq_false_iff_ne.mpr c38
                    have c38b1 : ((bt t101 x5_2) != 32) = true := bne_iff_ne.mpr c38
                    by_cases c39 : x5_2 = (t101.size : Int)
                    · rw [if_pos c39] at H
                      have c39b0 : (x5_2 == (t101.size : Int)) = true := beq_iff_eq.mpr c39
                      have c39b1 : (x5_2 != (t101.size : Int)) = false := bne_eq_false_iff_eq.mpr c39
                      clear c39
                      replace H := Option.bind_eq_some_iff.mp H
                      obtain ⟨t117, A400, H⟩ := H
                      replace H : (some t117) = some r := H
                      have A40 := Aside0.mk A400
                      clear A400
                      obtain rfl := Option.some.inj H
                      have p37 : 0 ≤ (x5_2 : Int) := of_decide_eq_true (by first | (with_reducible assumption) | assumption)
                      have q37 : x5_2 < (t101.size : Int) := of_decide_eq_true (by first | (with_reducible assumption) | assumption)
                      have hx37 := bt_at t101 x5_2
                      replace p37 := eq_true p37
                      replace q37 := eq_true q37
                      go_wp2_with (first | (go_at_call 10; (with_reducible refine (imprimaturlaw01_wakes.calls k2  t117 _ A40.out).mono ?_); rintro e w41 ⟨rfl, hb⟩; have n0_ := Aside0.mk (below_step (by repeat (first | (with_reducible first | exact HB.out | apply below_alloc | apply pw_below_drewN | apply below_drew1) | exact HB.out)) hb); clear HB; have HB := n0_; clear n0_; (try clear hb); (try clear hb2); (try clear hk); (try clear hi)))
                      repeat (go_quiet (first | (go_at_call 10; (with_reducible refine (imprimaturlaw01_wakes.calls k2  t117 _ A40.out).mono ?_); rintro e w41 ⟨rfl, hb⟩; have n0_ := Aside0.mk (below_step (by repeat (first | (with_reducible first | exact HB.out | apply below_alloc | apply pw_below_drewN | apply below_drew1) | exact HB.out)) hb); clear HB; have HB := n0_; clear n0_; (try clear hb); (try clear hb2); (try clear hk); (try clear hi))); try go_wp2_with (first | (go_at_call 10; (with_reducible refine (imprimaturlaw01_wakes.calls k2  t117 _ A40.out).mono ?_); rintro e w41 ⟨rfl, hb⟩; have n0_ := Aside0.mk (below_step (by repeat (first | (with_reducible first | exact HB.out | apply below_alloc | apply pw_below_drewN | apply below_drew1) | exact HB.out)) hb); clear HB; have HB := n0_; clear n0_; (try clear hb); (try clear hb2); (try clear hk); (try clear hi))))
                      go_ret
                      exact ⟨by first | rfl | (simp [errW_none, errW_some] <;> rfl) | (simp [*, errW_none, errW_some] <;> rfl), by repeat (first | (with_reducible first | exact HB.out | apply below_alloc | apply pw_below_drewN | apply below_drew1) | exact HB.out)⟩
                    · rw [if_neg c39] at H
                      have c39b0 : (x5_2 == (t101.size : Int)) = false := beq_eq_false_iff_ne.mpr c39
                      have c39b1 : (x5_2 != (t101.size : Int)) = true := bne_iff_ne.mpr c39
                      by_cases c43 : (bt t101 x5_2) = 35
                      · rw [if_pos c43] at H
                        have c43b0 : ((bt t101 x5_2) == 35) = true := beq_iff_eq.mpr c43
                        have c43b1 : ((bt t101 x5_2) != 35) = false := bne_eq_false_iff_eq.mpr c43
                        clear c43
                        replace H := Option.bind_eq_some_iff.mp H
                        obtain ⟨t118, A440, H⟩ := H
                        replace H : (some t118) = some r := H
                        have A44 := Aside0.mk A440
                        clear A440
                        obtain rfl := Option.some.inj H
                        have p37 : 0 ≤ (x5_2 : Int) := of_decide_eq_true (by first | (with_reducible assumption) | assumption)
                        have q37 : x5_2 < (t101.size : Int) := of_decide_eq_true (by first | (with_reducible assumption) | assumption)
                        have hx37 := bt_at t101 x5_2
                        replace p37 := eq_true p37
                        replace q37 := eq_true q37
                        have p42 : 0 ≤ (x5_2 : Int) := of_decide_eq_true (by first | (with_reducible assumption) | assumption)
                        have q42 : x5_2 < (t101.size : Int) := of_decide_eq_true (by first | (with_reducible assumption) | assumption)
                        have hx42 := bt_at t101 x5_2
                        replace p42 := eq_true p42
                        replace q42 := eq_true q42
                        go_wp2_with (first | (go_at_call 10; (with_reducible refine (imprimaturlaw01_wakes.calls k2  t118 _ A44.out).mono ?_); rintro e w45 ⟨rfl, hb⟩; have n0_ := Aside0.mk (below_step (by repeat (first | (with_reducible first | exact HB.out | apply below_alloc | apply pw_below_drewN | apply below_drew1) | exact HB.out)) hb); clear HB; have HB := n0_; clear n0_; (try clear hb); (try clear hb2); (try clear hk); (try clear hi)))
                        repeat (go_quiet (first | (go_at_call 10; (with_reducible refine (imprimaturlaw01_wakes.calls k2  t118 _ A44.out).mono ?_); rintro e w45 ⟨rfl, hb⟩; have n0_ := Aside0.mk (below_step (by repeat (first | (with_reducible first | exact HB.out | apply below_alloc | apply pw_below_drewN | apply below_drew1) | exact HB.out)) hb); clear HB; have HB := n0_; clear n0_; (try clear hb); (try clear hb2); (try clear hk); (try clear hi))); try go_wp2_with (first | (go_at_call 10; (with_reducible refine (imprimaturlaw01_wakes.calls k2  t118 _ A44.out).mono ?_); rintro e w45 ⟨rfl, hb⟩; have n0_ := Aside0.mk (below_step (by repeat (first | (with_reducible first | exact HB.out | apply below_alloc | apply pw_below_drewN | apply below_drew1) | exact HB.out)) hb); clear HB; have HB := n0_; clear n0_; (try clear hb); (try clear hb2); (try clear hk); (try clear hi))))
                        go_ret
                        exact ⟨by first | rfl | (simp [errW_none, errW_some] <;> rfl) | (simp [*, errW_none, errW_some] <;> rfl), by repeat (first | (with_reducible first | exact HB.out | apply below_alloc | apply pw_below_drewN | apply below_drew1) | exact HB.out)⟩
                      · rw [if_neg c43] at H
                        have c43b0 : ((bt t101 x5_2) == 35) = false := beq_eq_false_iff_ne.mpr c43
                        have c43b1 : ((bt t101 x5_2) != 35) = true := bne_iff_ne.mpr c43
                        obtain rfl := Option.some.inj H
                        have p37 : 0 ≤ (x5_2 : Int) := of_decide_eq_true (by first | (with_reducible assumption) | assumption)
                        have q37 : x5_2 < (t101.size : Int) := of_decide_eq_true (by first | (with_reducible assumption) | assumption)
                        have hx37 := bt_at t101 x5_2
                        replace p37 := eq_true p37
                        replace q37 := eq_true q37
                        have p42 : 0 ≤ (x5_2 : Int) := of_decide_eq_true (by first | (with_reducible assumption) | assumption)
                        have q42 : x5_2 < (t101.size : Int) := of_decide_eq_true (by first | (with_reducible assumption) | assumption)
                        have hx42 := bt_at t101 x5_2
                        replace p42 := eq_true p42
                        replace q42 := eq_true q42
                        go_wp2
                        repeat (go_quiet (fail); try go_wp2)
                        go_ret
                        exact ⟨by first | rfl | (simp [errW_none, errW_some] <;> rfl) | (simp [*, errW_none, errW_some] <;> rfl), by repeat (first | (with_reducible first | exact HB.out | apply below_alloc | apply pw_below_drewN | apply below_drew1) | exact HB.out)⟩
                · rw [if_neg c36] at H
                  exact absurd H (by simp)
              · rw [if_neg c35] at H
                have c35b0 : decide (x5_2 < (t101.size : Int)) = false := decide_eq_false c35
                clear c35
                by_cases c46 : x5_2 = (t101.size : Int)
                · rw [if_pos c46] at H
                  have c46b0 : (x5_2 == (t101.size : Int)) = true := beq_iff_eq.mpr c46
                  have c46b1 : (x5_2 != (t101.size : Int)) = false := bne_eq_false_iff_eq.mpr c46
                  clear c46
                  replace H := Option.bind_eq_some_iff.mp H
                  obtain ⟨t119, A470, H⟩ := H
                  replace H : (some t119) = some r := H
                  have A47 := Aside0.mk A470
                  clear A470
                  obtain rfl := Option.some.inj H
                  go_wp2_with (first | (go_at_call 10; (with_reducible refine (imprimaturlaw01_wakes.calls k2  t119 _ A47.out).mono ?_); rintro e w48 ⟨rfl, hb⟩; have n0_ := Aside0.mk (below_step (by repeat (first | (with_reducible first | exact HB.out | apply below_alloc | apply pw_below_drewN | apply below_drew1) | exact HB.out)) hb); clear HB; have HB := n0_; clear n0_; (try clear hb); (try clear hb2); (try clear hk); (try clear hi)))
                  repeat (go_quiet (first | (go_at_call 10; (with_reducible refine (imprimaturlaw01_wakes.calls k2  t119 _ A47.out).mono ?_); rintro e w48 ⟨rfl, hb⟩; have n0_ := Aside0.mk (below_step (by repeat (first | (with_reducible first | exact HB.out | apply below_alloc | apply pw_below_drewN | apply below_drew1) | exact HB.out)) hb); clear HB; have HB := n0_; clear n0_; (try clear hb); (try clear hb2); (try clear hk); (try clear hi))); try go_wp2_with (first | (go_at_call 10; (with_reducible refine (imprimaturlaw01_wakes.calls k2  t119 _ A47.out).mono ?_); rintro e w48 ⟨rfl, hb⟩; have n0_ := Aside0.mk (below_step (by repeat (first | (with_reducible first | exact HB.out | apply below_alloc | apply pw_below_drewN | apply below_drew1) | exact HB.out)) hb); clear HB; have HB := n0_; clear n0_; (try clear hb); (try clear hb2); (try clear hk); (try clear hi))))
                  go_ret
                  exact ⟨by first | rfl | (simp [errW_none, errW_some] <;> rfl) | (simp [*, errW_none, errW_some] <;> rfl), by repeat (first | (with_reducible first | exact HB.out | apply below_alloc | apply pw_below_drewN | apply below_drew1) | exact HB.out)⟩
                · rw [if_neg c46] at H
                  have c46b0 : (x5_2 == (t101.size : Int)) = false := beq_eq_false_iff_ne.mpr c46
                  have c46b1 : (x5_2 != (t101.size : Int)) = true := bne_iff_ne.mpr c46
                  by_cases c49 : 0 ≤ x5_2
                  · rw [if_pos c49] at H
                    exact absurd H (by simp)
                  · rw [if_neg c49] at H
                    exact absurd H (by simp)
  · rw [if_neg c4] at H
    have c4b0 : (t103 == 0) = false := beq_eq_false_iff_ne.mpr c4
    have c4b1 : (t103 != 0) = true := bne_iff_ne.mpr c4
    by_cases c50 : (t102.length : Int) = 0
    · rw [if_pos c50] at H
      have c50b0 : ((t102.length : Int) == 0) = true := beq_iff_eq.mpr c50
      have c50b1 : ((t102.length : Int) != 0) = false := bne_eq_false_iff_eq.mpr c50
      clear c50
      by_cases c51 : t103 ≥ 1
      · rw [if_pos c51] at H
        have c51b0 : decide (1 ≤ t103) = true := decide_eq_true c51
        clear c51
        by_cases c52 : t103 ≤ (t101.size : Int)
        · rw [if_pos c52] at H
          have c52b0 : decide (t103 ≤ (t101.size : Int)) = true := decide_eq_true c52
          clear c52
          obtain ⟨ji53, hji53⟩ : ∃ j_ : Int, (wrap64 (t103 - 1)) = j_ := ⟨_, rfl⟩
          replace H : (if 0 ≤ (ji53) then (if (ji53) < (t101.size : Int) then (if (bt t101 (ji53)) < 32 then ((imprimaturlaw01_wakes.f k).bind fun t106 => (some t106)) else (if (bt t101 (ji53)) > 126 then ((imprimaturlaw01_wakes.f k).bind fun t107 => (some t107)) else (some false))) else (none)) else (none)) = some r := by first | (rw [hji53] at H; exact H) | (simp only [hji53] at H ⊢; exact H)
          (try rw [hji53] at A2)
          (try rw [hji53] at A3)
          have hji53w : (IntKind.i64.wrap (t103 - 1)) = ji53 := (i64_w _).trans hji53
          by_cases c54 : 0 ≤ (ji53)
          · rw [if_pos c54] at H
            have c54b0 : decide (0 ≤ (ji53)) = true := decide_eq_true c54
            clear c54
            by_cases c55 : (ji53) < (t101.size : Int)
            · rw [if_pos c55] at H
              have c55b0 : decide ((ji53) < (t101.size : Int)) = true := decide_eq_true c55
              clear c55
              by_cases c57 : (bt t101 (ji53)) < 32
              · rw [if_pos c57] at H
                have c57b0 : decide ((bt t101 (ji53)) < 32) = true := decide_eq_true c57
                clear c57
                replace H := Option.bind_eq_some_iff.mp H
                obtain ⟨t106, A580, H⟩ := H
                replace H : (some t106) = some r := H
                have A58 := Aside0.mk A580
                clear A580
                obtain rfl := Option.some.inj H
                go_enter Try.func5, Try.ntmps5
                go_wp2_with (first | (go_at_call 11; (with_reducible refine (imprimaturkeep_Text.calls a0 80 t101 _ A2.out).mono ?_); rintro e w59 ⟨rfl, hb⟩; have n0_ := Aside0.mk (below_step (by repeat (first | (with_reducible first | exact HB.out | apply below_alloc | apply pw_below_drewN | apply below_drew1) | exact HB.out)) hb); clear HB; have HB := n0_; clear n0_; (try clear hb); (try clear hb2); (try clear hk); (try clear hi)) | (go_at_call 8; (with_reducible refine (words_Split.calls k t101 t102 t103 _ A3.out).mono ?_); rintro e w60 ⟨v104, rfl, ho0, hb⟩; have n0_ := Aside0.mk (Kd.R_lower ho0 (below_size (by repeat (first | (with_reducible first | exact HB.out | apply below_alloc | apply pw_below_drewN | apply below_drew1) | exact HB.out)))); have n1_ := Aside0.mk (below_step (by repeat (first | (with_reducible first | exact HB.out | apply below_alloc | apply pw_below_drewN | apply below_drew1) | exact HB.out)) hb); clear HB; have HO105 := n0_; have HB := n1_; clear n0_ n1_; (try clear hb); (try clear hb2); (try clear hk); (try clear hi); (try clear ho0); obtain ⟨Ao61, co61, eo61⟩ := Kd.R_slice HO105.out; subst eo61; have p56 : 0 ≤ ((ji53) : Int) := of_decide_eq_true (by first | (with_reducible assumption) | assumption); have q56 : (ji53) < (t101.size : Int) := of_decide_eq_true (by first | (with_reducible assumption) | assumption); have hx56 := bt_at t101 (ji53); replace p56 := eq_true p56; replace q56 := eq_true q56) | (go_at_call 10; (with_reducible refine (imprimaturlaw01_wakes.calls k  t106 _ A58.out).mono ?_); rintro e w62 ⟨rfl, hb⟩; have n0_ := Aside0.mk (Kd.R_below (by (with_reducible repeat (first | apply Kd.R_alloc | apply Kd.R_drewN | apply Kd.R_drew)); exact HO105.out) hb); have n1_ := Aside0.mk (below_step (by repeat (first | (with_reducible first | exact HB.out | apply below_alloc | apply pw_below_drewN | apply below_drew1) | exact HB.out)) hb); clear HO105; clear HB; have HO105 := n0_; have HB := n1_; clear n0_ n1_; (try clear hb); (try clear hb2); (try clear hk); (try clear hi)))
                repeat (go_quiet (first | (go_at_call 11; (with_reducible refine (imprimaturkeep_Text.calls a0 80 t101 _ A2.out).mono ?_); rintro e w59 ⟨rfl, hb⟩; have n0_ := Aside0.mk (below_step (by repeat (first | (with_reducible first | exact HB.out | apply below_alloc | apply pw_below_drewN | apply below_drew1) | exact HB.out)) hb); clear HB; have HB := n0_; clear n0_; (try clear hb); (try clear hb2); (try clear hk); (try clear hi)) | (go_at_call 8; (with_reducible refine (words_Split.calls k t101 t102 t103 _ A3.out).mono ?_); rintro e w60 ⟨v104, rfl, ho0, hb⟩; have n0_ := Aside0.mk (Kd.R_lower ho0 (below_size (by repeat (first | (with_reducible first | exact HB.out | apply below_alloc | apply pw_below_drewN | apply below_drew1) | exact HB.out)))); have n1_ := Aside0.mk (below_step (by repeat (first | (with_reducible first | exact HB.out | apply below_alloc | apply pw_below_drewN | apply below_drew1) | exact HB.out)) hb); clear HB; have HO105 := n0_; have HB := n1_; clear n0_ n1_; (try clear hb); (try clear hb2); (try clear hk); (try clear hi); (try clear ho0); obtain ⟨Ao61, co61, eo61⟩ := Kd.R_slice HO105.out; subst eo61; have p56 : 0 ≤ ((ji53) : Int) := of_decide_eq_true (by first | (with_reducible assumption) | assumption); have q56 : (ji53) < (t101.size : Int) := of_decide_eq_true (by first | (with_reducible assumption) | assumption); have hx56 := bt_at t101 (ji53); replace p56 := eq_true p56; replace q56 := eq_true q56) | (go_at_call 10; (with_reducible refine (imprimaturlaw01_wakes.calls k  t106 _ A58.out).mono ?_); rintro e w62 ⟨rfl, hb⟩; have n0_ := Aside0.mk (Kd.R_below (by (with_reducible repeat (first | apply Kd.R_alloc | apply Kd.R_drewN | apply Kd.R_drew)); exact HO105.out) hb); have n1_ := Aside0.mk (below_step (by repeat (first | (with_reducible first | exact HB.out | apply below_alloc | apply pw_below_drewN | apply below_drew1) | exact HB.out)) hb); clear HO105; clear HB; have HO105 := n0_; have HB := n1_; clear n0_ n1_; (try clear hb); (try clear hb2); (try clear hk); (try clear hi))); try go_wp2_with (first | (go_at_call 11; (with_reducible refine (imprimaturkeep_Text.calls a0 80 t101 _ A2.out).mono ?_); rintro e w59 ⟨rfl, hb⟩; have n0_ := Aside0.mk (below_step (by repeat (first | (with_reducible first | exact HB.out | apply below_alloc | apply pw_below_drewN | apply below_drew1) | exact HB.out)) hb); clear HB; have HB := n0_; clear n0_; (try clear hb); (try clear hb2); (try clear hk); (try clear hi)) | (go_at_call 8; (with_reducible refine (words_Split.calls k t101 t102 t103 _ A3.out).mono ?_); rintro e w60 ⟨v104, rfl, ho0, hb⟩; have n0_ := Aside0.mk (Kd.R_lower ho0 (below_size (by repeat (first | (with_reducible first | exact HB.out | apply below_alloc | apply pw_below_drewN | apply below_drew1) | exact HB.out)))); have n1_ := Aside0.mk (below_step (by repeat (first | (with_reducible first | exact HB.out | apply below_alloc | apply pw_below_drewN | apply below_drew1) | exact HB.out)) hb); clear HB; have HO105 := n0_; have HB := n1_; clear n0_ n1_; (try clear hb); (try clear hb2); (try clear hk); (try clear hi); (try clear ho0); obtain ⟨Ao61, co61, eo61⟩ := Kd.R_slice HO105.out; subst eo61; have p56 : 0 ≤ ((ji53) : Int) := of_decide_eq_true (by first | (with_reducible assumption) | assumption); have q56 : (ji53) < (t101.size : Int) := of_decide_eq_true (by first | (with_reducible assumption) | assumption); have hx56 := bt_at t101 (ji53); replace p56 := eq_true p56; replace q56 := eq_true q56) | (go_at_call 10; (with_reducible refine (imprimaturlaw01_wakes.calls k  t106 _ A58.out).mono ?_); rintro e w62 ⟨rfl, hb⟩; have n0_ := Aside0.mk (Kd.R_below (by (with_reducible repeat (first | apply Kd.R_alloc | apply Kd.R_drewN | apply Kd.R_drew)); exact HO105.out) hb); have n1_ := Aside0.mk (below_step (by repeat (first | (with_reducible first | exact HB.out | apply below_alloc | apply pw_below_drewN | apply below_drew1) | exact HB.out)) hb); clear HO105; clear HB; have HO105 := n0_; have HB := n1_; clear n0_ n1_; (try clear hb); (try clear hb2); (try clear hk); (try clear hi))))
                go_ret
                exact ⟨by first | rfl | (simp [errW_none, errW_some] <;> rfl) | (simp only [← hji53]; first | rfl | (simp [errW_none, errW_some] <;> rfl)) | (simp [*, errW_none, errW_some] <;> rfl), by repeat (first | (with_reducible first | exact HB.out | apply below_alloc | apply pw_below_drewN | apply below_drew1) | exact HB.out)⟩
              · rw [if_neg c57] at H
                have c57b0 : decide ((bt t101 (ji53)) < 32) = false := decide_eq_false c57
                clear c57
                by_cases c64 : (bt t101 (ji53)) > 126
                · rw [if_pos c64] at H
                  have c64b0 : decide (126 < (bt t101 (ji53))) = true := decide_eq_true c64
                  clear c64
                  replace H := Option.bind_eq_some_iff.mp H
                  obtain ⟨t107, A650, H⟩ := H
                  replace H : (some t107) = some r := H
                  have A65 := Aside0.mk A650
                  clear A650
                  obtain rfl := Option.some.inj H
                  go_enter Try.func5, Try.ntmps5
                  go_wp2_with (first | (go_at_call 11; (with_reducible refine (imprimaturkeep_Text.calls a0 80 t101 _ A2.out).mono ?_); rintro e w66 ⟨rfl, hb⟩; have n0_ := Aside0.mk (below_step (by repeat (first | (with_reducible first | exact HB.out | apply below_alloc | apply pw_below_drewN | apply below_drew1) | exact HB.out)) hb); clear HB; have HB := n0_; clear n0_; (try clear hb); (try clear hb2); (try clear hk); (try clear hi)) | (go_at_call 8; (with_reducible refine (words_Split.calls k t101 t102 t103 _ A3.out).mono ?_); rintro e w67 ⟨v104, rfl, ho0, hb⟩; have n0_ := Aside0.mk (Kd.R_lower ho0 (below_size (by repeat (first | (with_reducible first | exact HB.out | apply below_alloc | apply pw_below_drewN | apply below_drew1) | exact HB.out)))); have n1_ := Aside0.mk (below_step (by repeat (first | (with_reducible first | exact HB.out | apply below_alloc | apply pw_below_drewN | apply below_drew1) | exact HB.out)) hb); clear HB; have HO105 := n0_; have HB := n1_; clear n0_ n1_; (try clear hb); (try clear hb2); (try clear hk); (try clear hi); (try clear ho0); obtain ⟨Ao68, co68, eo68⟩ := Kd.R_slice HO105.out; subst eo68; have p56 : 0 ≤ ((ji53) : Int) := of_decide_eq_true (by first | (with_reducible assumption) | assumption); have q56 : (ji53) < (t101.size : Int) := of_decide_eq_true (by first | (with_reducible assumption) | assumption); have hx56 := bt_at t101 (ji53); replace p56 := eq_true p56; replace q56 := eq_true q56; have p63 : 0 ≤ ((ji53) : Int) := of_decide_eq_true (by first | (with_reducible assumption) | assumption); have q63 : (ji53) < (t101.size : Int) := of_decide_eq_true (by first | (with_reducible assumption) | assumption); have hx63 := bt_at t101 (ji53); replace p63 := eq_true p63; replace q63 := eq_true q63) | (go_at_call 10; (with_reducible refine (imprimaturlaw01_wakes.calls k  t107 _ A65.out).mono ?_); rintro e w69 ⟨rfl, hb⟩; have n0_ := Aside0.mk (Kd.R_below (by (with_reducible repeat (first | apply Kd.R_alloc | apply Kd.R_drewN | apply Kd.R_drew)); exact HO105.out) hb); have n1_ := Aside0.mk (below_step (by repeat (first | (with_reducible first | exact HB.out | apply below_alloc | apply pw_below_drewN | apply below_drew1) | exact HB.out)) hb); clear HO105; clear HB; have HO105 := n0_; have HB := n1_; clear n0_ n1_; (try clear hb); (try clear hb2); (try clear hk); (try clear hi)))
                  repeat (go_quiet (first | (go_at_call 11; (with_reducible refine (imprimaturkeep_Text.calls a0 80 t101 _ A2.out).mono ?_); rintro e w66 ⟨rfl, hb⟩; have n0_ := Aside0.mk (below_step (by repeat (first | (with_reducible first | exact HB.out | apply below_alloc | apply pw_below_drewN | apply below_drew1) | exact HB.out)) hb); clear HB; have HB := n0_; clear n0_; (try clear hb); (try clear hb2); (try clear hk); (try clear hi)) | (go_at_call 8; (with_reducible refine (words_Split.calls k t101 t102 t103 _ A3.out).mono ?_); rintro e w67 ⟨v104, rfl, ho0, hb⟩; have n0_ := Aside0.mk (Kd.R_lower ho0 (below_size (by repeat (first | (with_reducible first | exact HB.out | apply below_alloc | apply pw_below_drewN | apply below_drew1) | exact HB.out)))); have n1_ := Aside0.mk (below_step (by repeat (first | (with_reducible first | exact HB.out | apply below_alloc | apply pw_below_drewN | apply below_drew1) | exact HB.out)) hb); clear HB; have HO105 := n0_; have HB := n1_; clear n0_ n1_; (try clear hb); (try clear hb2); (try clear hk); (try clear hi); (try clear ho0); obtain ⟨Ao68, co68, eo68⟩ := Kd.R_slice HO105.out; subst eo68; have p56 : 0 ≤ ((ji53) : Int) := of_decide_eq_true (by first | (with_reducible assumption) | assumption); have q56 : (ji53) < (t101.size : Int) := of_decide_eq_true (by first | (with_reducible assumption) | assumption); have hx56 := bt_at t101 (ji53); replace p56 := eq_true p56; replace q56 := eq_true q56; have p63 : 0 ≤ ((ji53) : Int) := of_decide_eq_true (by first | (with_reducible assumption) | assumption); have q63 : (ji53) < (t101.size : Int) := of_decide_eq_true (by first | (with_reducible assumption) | assumption); have hx63 := bt_at t101 (ji53); replace p63 := eq_true p63; replace q63 := eq_true q63) | (go_at_call 10; (with_reducible refine (imprimaturlaw01_wakes.calls k  t107 _ A65.out).mono ?_); rintro e w69 ⟨rfl, hb⟩; have n0_ := Aside0.mk (Kd.R_below (by (with_reducible repeat (first | apply Kd.R_alloc | apply Kd.R_drewN | apply Kd.R_drew)); exact HO105.out) hb); have n1_ := Aside0.mk (below_step (by repeat (first | (with_reducible first | exact HB.out | apply below_alloc | apply pw_below_drewN | apply below_drew1) | exact HB.out)) hb); clear HO105; clear HB; have HO105 := n0_; have HB := n1_; clear n0_ n1_; (try clear hb); (try clear hb2); (try clear hk); (try clear hi))); try go_wp2_with (first | (go_at_call 11; (with_reducible refine (imprimaturkeep_Text.calls a0 80 t101 _ A2.out).mono ?_); rintro e w66 ⟨rfl, hb⟩; have n0_ := Aside0.mk (below_step (by repeat (first | (with_reducible first | exact HB.out | apply below_alloc | apply pw_below_drewN | apply below_drew1) | exact HB.out)) hb); clear HB; have HB := n0_; clear n0_; (try clear hb); (try clear hb2); (try clear hk); (try clear hi)) | (go_at_call 8; (with_reducible refine (words_Split.calls k t101 t102 t103 _ A3.out).mono ?_); rintro e w67 ⟨v104, rfl, ho0, hb⟩; have n0_ := Aside0.mk (Kd.R_lower ho0 (below_size (by repeat (first | (with_reducible first | exact HB.out | apply below_alloc | apply pw_below_drewN | apply below_drew1) | exact HB.out)))); have n1_ := Aside0.mk (below_step (by repeat (first | (with_reducible first | exact HB.out | apply below_alloc | apply pw_below_drewN | apply below_drew1) | exact HB.out)) hb); clear HB; have HO105 := n0_; have HB := n1_; clear n0_ n1_; (try clear hb); (try clear hb2); (try clear hk); (try clear hi); (try clear ho0); obtain ⟨Ao68, co68, eo68⟩ := Kd.R_slice HO105.out; subst eo68; have p56 : 0 ≤ ((ji53) : Int) := of_decide_eq_true (by first | (with_reducible assumption) | assumption); have q56 : (ji53) < (t101.size : Int) := of_decide_eq_true (by first | (with_reducible assumption) | assumption); have hx56 := bt_at t101 (ji53); replace p56 := eq_true p56; replace q56 := eq_true q56; have p63 : 0 ≤ ((ji53) : Int) := of_decide_eq_true (by first | (with_reducible assumption) | assumption); have q63 : (ji53) < (t101.size : Int) := of_decide_eq_true (by first | (with_reducible assumption) | assumption); have hx63 := bt_at t101 (ji53); replace p63 := eq_true p63; replace q63 := eq_true q63) | (go_at_call 10; (with_reducible refine (imprimaturlaw01_wakes.calls k  t107 _ A65.out).mono ?_); rintro e w69 ⟨rfl, hb⟩; have n0_ := Aside0.mk (Kd.R_below (by (with_reducible repeat (first | apply Kd.R_alloc | apply Kd.R_drewN | apply Kd.R_drew)); exact HO105.out) hb); have n1_ := Aside0.mk (below_step (by repeat (first | (with_reducible first | exact HB.out | apply below_alloc | apply pw_below_drewN | apply below_drew1) | exact HB.out)) hb); clear HO105; clear HB; have HO105 := n0_; have HB := n1_; clear n0_ n1_; (try clear hb); (try clear hb2); (try clear hk); (try clear hi))))
                  go_ret
                  exact ⟨by first | rfl | (simp [errW_none, errW_some] <;> rfl) | (simp only [← hji53]; first | rfl | (simp [errW_none, errW_some] <;> rfl)) | (simp [*, errW_none, errW_some] <;> rfl), by repeat (first | (with_reducible first | exact HB.out | apply below_alloc | apply pw_below_drewN | apply below_drew1) | exact HB.out)⟩
                · rw [if_neg c64] at H
                  have c64b0 : decide (126 < (bt t101 (ji53))) = false := decide_eq_false c64
                  clear c64
                  obtain rfl := Option.some.inj H
                  go_enter Try.func5, Try.ntmps5
                  go_wp2_with (first | (go_at_call 11; (with_reducible refine (imprimaturkeep_Text.calls a0 80 t101 _ A2.out).mono ?_); rintro e w70 ⟨rfl, hb⟩; have n0_ := Aside0.mk (below_step (by repeat (first | (with_reducible first | exact HB.out | apply below_alloc | apply pw_below_drewN | apply below_drew1) | exact HB.out)) hb); clear HB; have HB := n0_; clear n0_; (try clear hb); (try clear hb2); (try clear hk); (try clear hi)) | (go_at_call 8; (with_reducible refine (words_Split.calls k t101 t102 t103 _ A3.out).mono ?_); rintro e w71 ⟨v104, rfl, ho0, hb⟩; have n0_ := Aside0.mk (Kd.R_lower ho0 (below_size (by repeat (first | (with_reducible first | exact HB.out | apply below_alloc | apply pw_below_drewN | apply below_drew1) | exact HB.out)))); have n1_ := Aside0.mk (below_step (by repeat (first | (with_reducible first | exact HB.out | apply below_alloc | apply pw_below_drewN | apply below_drew1) | exact HB.out)) hb); clear HB; have HO105 := n0_; have HB := n1_; clear n0_ n1_; (try clear hb); (try clear hb2); (try clear hk); (try clear hi); (try clear ho0); obtain ⟨Ao72, co72, eo72⟩ := Kd.R_slice HO105.out; subst eo72; have p56 : 0 ≤ ((ji53) : Int) := of_decide_eq_true (by first | (with_reducible assumption) | assumption); have q56 : (ji53) < (t101.size : Int) := of_decide_eq_true (by first | (with_reducible assumption) | assumption); have hx56 := bt_at t101 (ji53); replace p56 := eq_true p56; replace q56 := eq_true q56; have p63 : 0 ≤ ((ji53) : Int) := of_decide_eq_true (by first | (with_reducible assumption) | assumption); have q63 : (ji53) < (t101.size : Int) := of_decide_eq_true (by first | (with_reducible assumption) | assumption); have hx63 := bt_at t101 (ji53); replace p63 := eq_true p63; replace q63 := eq_true q63))
                  repeat (go_quiet (first | (go_at_call 11; (with_reducible refine (imprimaturkeep_Text.calls a0 80 t101 _ A2.out).mono ?_); rintro e w70 ⟨rfl, hb⟩; have n0_ := Aside0.mk (below_step (by repeat (first | (with_reducible first | exact HB.out | apply below_alloc | apply pw_below_drewN | apply below_drew1) | exact HB.out)) hb); clear HB; have HB := n0_; clear n0_; (try clear hb); (try clear hb2); (try clear hk); (try clear hi)) | (go_at_call 8; (with_reducible refine (words_Split.calls k t101 t102 t103 _ A3.out).mono ?_); rintro e w71 ⟨v104, rfl, ho0, hb⟩; have n0_ := Aside0.mk (Kd.R_lower ho0 (below_size (by repeat (first | (with_reducible first | exact HB.out | apply below_alloc | apply pw_below_drewN | apply below_drew1) | exact HB.out)))); have n1_ := Aside0.mk (below_step (by repeat (first | (with_reducible first | exact HB.out | apply below_alloc | apply pw_below_drewN | apply below_drew1) | exact HB.out)) hb); clear HB; have HO105 := n0_; have HB := n1_; clear n0_ n1_; (try clear hb); (try clear hb2); (try clear hk); (try clear hi); (try clear ho0); obtain ⟨Ao72, co72, eo72⟩ := Kd.R_slice HO105.out; subst eo72; have p56 : 0 ≤ ((ji53) : Int) := of_decide_eq_true (by first | (with_reducible assumption) | assumption); have q56 : (ji53) < (t101.size : Int) := of_decide_eq_true (by first | (with_reducible assumption) | assumption); have hx56 := bt_at t101 (ji53); replace p56 := eq_true p56; replace q56 := eq_true q56; have p63 : 0 ≤ ((ji53) : Int) := of_decide_eq_true (by first | (with_reducible assumption) | assumption); have q63 : (ji53) < (t101.size : Int) := of_decide_eq_true (by first | (with_reducible assumption) | assumption); have hx63 := bt_at t101 (ji53); replace p63 := eq_true p63; replace q63 := eq_true q63)); try go_wp2_with (first | (go_at_call 11; (with_reducible refine (imprimaturkeep_Text.calls a0 80 t101 _ A2.out).mono ?_); rintro e w70 ⟨rfl, hb⟩; have n0_ := Aside0.mk (below_step (by repeat (first | (with_reducible first | exact HB.out | apply below_alloc | apply pw_below_drewN | apply below_drew1) | exact HB.out)) hb); clear HB; have HB := n0_; clear n0_; (try clear hb); (try clear hb2); (try clear hk); (try clear hi)) | (go_at_call 8; (with_reducible refine (words_Split.calls k t101 t102 t103 _ A3.out).mono ?_); rintro e w71 ⟨v104, rfl, ho0, hb⟩; have n0_ := Aside0.mk (Kd.R_lower ho0 (below_size (by repeat (first | (with_reducible first | exact HB.out | apply below_alloc | apply pw_below_drewN | apply below_drew1) | exact HB.out)))); have n1_ := Aside0.mk (below_step (by repeat (first | (with_reducible first | exact HB.out | apply below_alloc | apply pw_below_drewN | apply below_drew1) | exact HB.out)) hb); clear HB; have HO105 := n0_; have HB := n1_; clear n0_ n1_; (try clear hb); (try clear hb2); (try clear hk); (try clear hi); (try clear ho0); obtain ⟨Ao72, co72, eo72⟩ := Kd.R_slice HO105.out; subst eo72; have p56 : 0 ≤ ((ji53) : Int) := of_decide_eq_true (by first | (with_reducible assumption) | assumption); have q56 : (ji53) < (t101.size : Int) := of_decide_eq_true (by first | (with_reducible assumption) | assumption); have hx56 := bt_at t101 (ji53); replace p56 := eq_true p56; replace q56 := eq_true q56; have p63 : 0 ≤ ((ji53) : Int) := of_decide_eq_true (by first | (with_reducible assumption) | assumption); have q63 : (ji53) < (t101.size : Int) := of_decide_eq_true (by first | (with_reducible assumption) | assumption); have hx63 := bt_at t101 (ji53); replace p63 := eq_true p63; replace q63 := eq_true q63)))
                  go_ret
                  exact ⟨by first | rfl | (simp [errW_none, errW_some] <;> rfl) | (simp only [← hji53]; first | rfl | (simp [errW_none, errW_some] <;> rfl)) | (simp [*, errW_none, errW_some] <;> rfl), by repeat (first | (with_reducible first | exact HB.out | apply below_alloc | apply pw_below_drewN | apply below_drew1) | exact HB.out)⟩
            · rw [if_neg c55] at H
              exact absurd H (by simp)
          · rw [if_neg c54] at H
            exact absurd H (by simp)
        · rw [if_neg c52] at H
          have c52b0 : decide (t103 ≤ (t101.size : Int)) = false := decide_eq_false c52
          clear c52
          obtain rfl := Option.some.inj H
          go_enter Try.func5, Try.ntmps5
          go_wp2_with (first | (go_at_call 11; (with_reducible refine (imprimaturkeep_Text.calls a0 80 t101 _ A2.out).mono ?_); rintro e w73 ⟨rfl, hb⟩; have n0_ := Aside0.mk (below_step (by repeat (first | (with_reducible first | exact HB.out | apply below_alloc | apply pw_below_drewN | apply below_drew1) | exact HB.out)) hb); clear HB; have HB := n0_; clear n0_; (try clear hb); (try clear hb2); (try clear hk); (try clear hi)) | (go_at_call 8; (with_reducible refine (words_Split.calls k t101 t102 t103 _ A3.out).mono ?_); rintro e w74 ⟨v104, rfl, ho0, hb⟩; have n0_ := Aside0.mk (Kd.R_lower ho0 (below_size (by repeat (first | (with_reducible first | exact HB.out | apply below_alloc | apply pw_below_drewN | apply below_drew1) | exact HB.out)))); have n1_ := Aside0.mk (below_step (by repeat (first | (with_reducible first | exact HB.out | apply below_alloc | apply pw_below_drewN | apply below_drew1) | exact HB.out)) hb); clear HB; have HO105 := n0_; have HB := n1_; clear n0_ n1_; (try clear hb); (try clear hb2); (try clear hk); (try clear hi); (try clear ho0); obtain ⟨Ao75, co75, eo75⟩ := Kd.R_slice HO105.out; subst eo75))
          repeat (go_quiet (first | (go_at_call 11; (with_reducible refine (imprimaturkeep_Text.calls a0 80 t101 _ A2.out).mono ?_); rintro e w73 ⟨rfl, hb⟩; have n0_ := Aside0.mk (below_step (by repeat (first | (with_reducible first | exact HB.out | apply below_alloc | apply pw_below_drewN | apply below_drew1) | exact HB.out)) hb); clear HB; have HB := n0_; clear n0_; (try clear hb); (try clear hb2); (try clear hk); (try clear hi)) | (go_at_call 8; (with_reducible refine (words_Split.calls k t101 t102 t103 _ A3.out).mono ?_); rintro e w74 ⟨v104, rfl, ho0, hb⟩; have n0_ := Aside0.mk (Kd.R_lower ho0 (below_size (by repeat (first | (with_reducible first | exact HB.out | apply below_alloc | apply pw_below_drewN | apply below_drew1) | exact HB.out)))); have n1_ := Aside0.mk (below_step (by repeat (first | (with_reducible first | exact HB.out | apply below_alloc | apply pw_below_drewN | apply below_drew1) | exact HB.out)) hb); clear HB; have HO105 := n0_; have HB := n1_; clear n0_ n1_; (try clear hb); (try clear hb2); (try clear hk); (try clear hi); (try clear ho0); obtain ⟨Ao75, co75, eo75⟩ := Kd.R_slice HO105.out; subst eo75)); try go_wp2_with (first | (go_at_call 11; (with_reducible refine (imprimaturkeep_Text.calls a0 80 t101 _ A2.out).mono ?_); rintro e w73 ⟨rfl, hb⟩; have n0_ := Aside0.mk (below_step (by repeat (first | (with_reducible first | exact HB.out | apply below_alloc | apply pw_below_drewN | apply below_drew1) | exact HB.out)) hb); clear HB; have HB := n0_; clear n0_; (try clear hb); (try clear hb2); (try clear hk); (try clear hi)) | (go_at_call 8; (with_reducible refine (words_Split.calls k t101 t102 t103 _ A3.out).mono ?_); rintro e w74 ⟨v104, rfl, ho0, hb⟩; have n0_ := Aside0.mk (Kd.R_lower ho0 (below_size (by repeat (first | (with_reducible first | exact HB.out | apply below_alloc | apply pw_below_drewN | apply below_drew1) | exact HB.out)))); have n1_ := Aside0.mk (below_step (by repeat (first | (with_reducible first | exact HB.out | apply below_alloc | apply pw_below_drewN | apply below_drew1) | exact HB.out)) hb); clear HB; have HO105 := n0_; have HB := n1_; clear n0_ n1_; (try clear hb); (try clear hb2); (try clear hk); (try clear hi); (try clear ho0); obtain ⟨Ao75, co75, eo75⟩ := Kd.R_slice HO105.out; subst eo75)))
          go_ret
          exact ⟨by first | rfl | (simp [errW_none, errW_some] <;> rfl) | (simp [*, errW_none, errW_some] <;> rfl), by repeat (first | (with_reducible first | exact HB.out | apply below_alloc | apply pw_below_drewN | apply below_drew1) | exact HB.out)⟩
      · rw [if_neg c51] at H
        have c51b0 : decide (1 ≤ t103) = false := decide_eq_false c51
        clear c51
        obtain rfl := Option.some.inj H
        go_enter Try.func5, Try.ntmps5
        go_wp2_with (first | (go_at_call 11; (with_reducible refine (imprimaturkeep_Text.calls a0 80 t101 _ A2.out).mono ?_); rintro e w76 ⟨rfl, hb⟩; have n0_ := Aside0.mk (below_step (by repeat (first | (with_reducible first | exact HB.out | apply below_alloc | apply pw_below_drewN | apply below_drew1) | exact HB.out)) hb); clear HB; have HB := n0_; clear n0_; (try clear hb); (try clear hb2); (try clear hk); (try clear hi)) | (go_at_call 8; (with_reducible refine (words_Split.calls k t101 t102 t103 _ A3.out).mono ?_); rintro e w77 ⟨v104, rfl, ho0, hb⟩; have n0_ := Aside0.mk (Kd.R_lower ho0 (below_size (by repeat (first | (with_reducible first | exact HB.out | apply below_alloc | apply pw_below_drewN | apply below_drew1) | exact HB.out)))); have n1_ := Aside0.mk (below_step (by repeat (first | (with_reducible first | exact HB.out | apply below_alloc | apply pw_below_drewN | apply below_drew1) | exact HB.out)) hb); clear HB; have HO105 := n0_; have HB := n1_; clear n0_ n1_; (try clear hb); (try clear hb2); (try clear hk); (try clear hi); (try clear ho0); obtain ⟨Ao78, co78, eo78⟩ := Kd.R_slice HO105.out; subst eo78))
        repeat (go_quiet (first | (go_at_call 11; (with_reducible refine (imprimaturkeep_Text.calls a0 80 t101 _ A2.out).mono ?_); rintro e w76 ⟨rfl, hb⟩; have n0_ := Aside0.mk (below_step (by repeat (first | (with_reducible first | exact HB.out | apply below_alloc | apply pw_below_drewN | apply below_drew1) | exact HB.out)) hb); clear HB; have HB := n0_; clear n0_; (try clear hb); (try clear hb2); (try clear hk); (try clear hi)) | (go_at_call 8; (with_reducible refine (words_Split.calls k t101 t102 t103 _ A3.out).mono ?_); rintro e w77 ⟨v104, rfl, ho0, hb⟩; have n0_ := Aside0.mk (Kd.R_lower ho0 (below_size (by repeat (first | (with_reducible first | exact HB.out | apply below_alloc | apply pw_below_drewN | apply below_drew1) | exact HB.out)))); have n1_ := Aside0.mk (below_step (by repeat (first | (with_reducible first | exact HB.out | apply below_alloc | apply pw_below_drewN | apply below_drew1) | exact HB.out)) hb); clear HB; have HO105 := n0_; have HB := n1_; clear n0_ n1_; (try clear hb); (try clear hb2); (try clear hk); (try clear hi); (try clear ho0); obtain ⟨Ao78, co78, eo78⟩ := Kd.R_slice HO105.out; subst eo78)); try go_wp2_with (first | (go_at_call 11; (with_reducible refine (imprimaturkeep_Text.calls a0 80 t101 _ A2.out).mono ?_); rintro e w76 ⟨rfl, hb⟩; have n0_ := Aside0.mk (below_step (by repeat (first | (with_reducible first | exact HB.out | apply below_alloc | apply pw_below_drewN | apply below_drew1) | exact HB.out)) hb); clear HB; have HB := n0_; clear n0_; (try clear hb); (try clear hb2); (try clear hk); (try clear hi)) | (go_at_call 8; (with_reducible refine (words_Split.calls k t101 t102 t103 _ A3.out).mono ?_); rintro e w77 ⟨v104, rfl, ho0, hb⟩; have n0_ := Aside0.mk (Kd.R_lower ho0 (below_size (by repeat (first | (with_reducible first | exact HB.out | apply below_alloc | apply pw_below_drewN | apply below_drew1) | exact HB.out)))); have n1_ := Aside0.mk (below_step (by repeat (first | (with_reducible first | exact HB.out | apply below_alloc | apply pw_below_drewN | apply below_drew1) | exact HB.out)) hb); clear HB; have HO105 := n0_; have HB := n1_; clear n0_ n1_; (try clear hb); (try clear hb2); (try clear hk); (try clear hi); (try clear ho0); obtain ⟨Ao78, co78, eo78⟩ := Kd.R_slice HO105.out; subst eo78)))
        go_ret
        exact ⟨by first | rfl | (simp [errW_none, errW_some] <;> rfl) | (simp [*, errW_none, errW_some] <;> rfl), by repeat (first | (with_reducible first | exact HB.out | apply below_alloc | apply pw_below_drewN | apply below_drew1) | exact HB.out)⟩
    · rw [if_neg c50] at H
      have c50b0 : ((t102.length : Int) == 0) = false := beq_eq_false_iff_ne.mpr c50
      have c50b1 : ((t102.length : Int) != 0) = true := bne_iff_ne.mpr c50
      have c50b2 : ¬ (t102 = []) := fun h_ => c50 (by rw [h_]; rfl)
      obtain rfl := Option.some.inj H
      go_enter Try.func5, Try.ntmps5
      go_wp2_with (first | (go_at_call 11; (with_reducible refine (imprimaturkeep_Text.calls a0 80 t101 _ A2.out).mono ?_); rintro e w79 ⟨rfl, hb⟩; have n0_ := Aside0.mk (below_step (by repeat (first | (with_reducible first | exact HB.out | apply below_alloc | apply pw_below_drewN | apply below_drew1) | exact HB.out)) hb); clear HB; have HB := n0_; clear n0_; (try clear hb); (try clear hb2); (try clear hk); (try clear hi)) | (go_at_call 8; (with_reducible refine (words_Split.calls k t101 t102 t103 _ A3.out).mono ?_); rintro e w80 ⟨v104, rfl, ho0, hb⟩; have n0_ := Aside0.mk (Kd.R_lower ho0 (below_size (by repeat (first | (with_reducible first | exact HB.out | apply below_alloc | apply pw_below_drewN | apply below_drew1) | exact HB.out)))); have n1_ := Aside0.mk (below_step (by repeat (first | (with_reducible first | exact HB.out | apply below_alloc | apply pw_below_drewN | apply below_drew1) | exact HB.out)) hb); clear HB; have HO105 := n0_; have HB := n1_; clear n0_ n1_; (try clear hb); (try clear hb2); (try clear hk); (try clear hi); (try clear ho0); obtain ⟨Ao81, co81, eo81⟩ := Kd.R_slice HO105.out; subst eo81))
      repeat (go_quiet (first | (go_at_call 11; (with_reducible refine (imprimaturkeep_Text.calls a0 80 t101 _ A2.out).mono ?_); rintro e w79 ⟨rfl, hb⟩; have n0_ := Aside0.mk (below_step (by repeat (first | (with_reducible first | exact HB.out | apply below_alloc | apply pw_below_drewN | apply below_drew1) | exact HB.out)) hb); clear HB; have HB := n0_; clear n0_; (try clear hb); (try clear hb2); (try clear hk); (try clear hi)) | (go_at_call 8; (with_reducible refine (words_Split.calls k t101 t102 t103 _ A3.out).mono ?_); rintro e w80 ⟨v104, rfl, ho0, hb⟩; have n0_ := Aside0.mk (Kd.R_lower ho0 (below_size (by repeat (first | (with_reducible first | exact HB.out | apply below_alloc | apply pw_below_drewN | apply below_drew1) | exact HB.out)))); have n1_ := Aside0.mk (below_step (by repeat (first | (with_reducible first | exact HB.out | apply below_alloc | apply pw_below_drewN | apply below_drew1) | exact HB.out)) hb); clear HB; have HO105 := n0_; have HB := n1_; clear n0_ n1_; (try clear hb); (try clear hb2); (try clear hk); (try clear hi); (try clear ho0); obtain ⟨Ao81, co81, eo81⟩ := Kd.R_slice HO105.out; subst eo81)); try go_wp2_with (first | (go_at_call 11; (with_reducible refine (imprimaturkeep_Text.calls a0 80 t101 _ A2.out).mono ?_); rintro e w79 ⟨rfl, hb⟩; have n0_ := Aside0.mk (below_step (by repeat (first | (with_reducible first | exact HB.out | apply below_alloc | apply pw_below_drewN | apply below_drew1) | exact HB.out)) hb); clear HB; have HB := n0_; clear n0_; (try clear hb); (try clear hb2); (try clear hk); (try clear hi)) | (go_at_call 8; (with_reducible refine (words_Split.calls k t101 t102 t103 _ A3.out).mono ?_); rintro e w80 ⟨v104, rfl, ho0, hb⟩; have n0_ := Aside0.mk (Kd.R_lower ho0 (below_size (by repeat (first | (with_reducible first | exact HB.out | apply below_alloc | apply pw_below_drewN | apply below_drew1) | exact HB.out)))); have n1_ := Aside0.mk (below_step (by repeat (first | (with_reducible first | exact HB.out | apply below_alloc | apply pw_below_drewN | apply below_drew1) | exact HB.out)) hb); clear HB; have HO105 := n0_; have HB := n1_; clear n0_ n1_; (try clear hb); (try clear hb2); (try clear hk); (try clear hi); (try clear ho0); obtain ⟨Ao81, co81, eo81⟩ := Kd.R_slice HO105.out; subst eo81)))
      go_ret
      exact ⟨by first | rfl | (simp [errW_none, errW_some] <;> rfl) | (simp [*, errW_none, errW_some] <;> rfl), by repeat (first | (with_reducible first | exact HB.out | apply below_alloc | apply pw_below_drewN | apply below_drew1) | exact HB.out)⟩

/-- THE ONE PURE STATEMENT of imprimaturlaw01_WordsPlaces: yours. -/
def imprimaturlaw01_WordsPlaces.Pure : Prop := ∀ (a0 : ByteArray), a0.size ≤ 140737488351232 → ∃ k, imprimaturlaw01_WordsPlaces.f k a0 = some true
theorem imprimaturlaw01_WordsPlaces.walk (P : imprimaturlaw01_WordsPlaces.Pure) (a0 : ByteArray) (w : World) (w0 : a0.size ≤ 140737488351232) :
    Calls Try.prog 5 #[.string a0] w fun e w' => e = .returned (.bool true) ∧ Below w.heap.size w w' := by
  obtain ⟨k, h⟩ := P a0 w0
  refine (imprimaturlaw01_WordsPlaces.calls k a0 true w h).mono ?_
  rintro e w' ⟨rfl, hd⟩
  exact ⟨rfl, hd⟩

end Go.Proofs.Ytniohifoimhbkaa.Q
