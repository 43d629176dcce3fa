-- merged and slimmed by slim.py (a program of this repo)
import Derived.Test.YtnomeokicfpidaaKEnterBack0
import Derived.Lib.BitFns
import Derived.Test.YtnomeokicfpidaaWMore
import Derived.Test.YtnomeokicfpidaaWNEv
import Derived.Test.YtnomeokicfpidaaKEnterBack6
import Derived.Test.YtnomeokicfpidaaKEnterBack2
namespace Go.Proofs.Ytnomeokicfpidaa.Q
open Go.RowKit Go.Proofs.YtnomeokicfpidaaW.PrintWords Go.Proofs.YtnomeokicfpidaaW.PrintLast Go.Proofs.YtnomeokicfpidaaW.PrintMore
attribute [local go_sem] max2_int min2_int max_two min_two max_three min_three max_four min_four
set_option linter.unusedVariables false
set_option linter.unusedSimpArgs false
def imprimaturlaw07_bits.l0 : Nat → Int → List Int → Int → Int → Option (Int)
 | 0, _, _, _, _ => none
 | k + 1, x3, x6, x7, x8 => if x8 < x7 then (if 0 ≤ x8 then (if x8 < (x6.length : Int) then (if (rd x6 x8) ≥ 0 then (if (rd x6 x8) < 32 then (if 0 ≤ (IntKind.u64.wrap (rd x6 x8)) then (imprimaturlaw07_bits.l0 k (Go.bits .or .u32 x3 (shl .u32 1 (IntKind.u64.wrap (rd x6 x8)))) x6 x7 (wrap64 (x8 + 1))) else (none)) else (imprimaturlaw07_bits.l0 k x3 x6 x7 (wrap64 (x8 + 1)))) else (imprimaturlaw07_bits.l0 k x3 x6 x7 (wrap64 (x8 + 1)))) else (none)) else (none)) else (some x3)
def imprimaturlaw07_bits.f (k : Nat) (l0 : List Int) : Option (Int) := imprimaturlaw07_bits.l0 k 0 l0 (l0.length : Int) 0
set_option maxHeartbeats 8000000 in
set_option maxRecDepth 100000 in
theorem imprimaturlaw07_bits.calls (k : Nat) (A0 : Option Addr) (c0 : Nat) (l0 : List Int) (r : Int) (w : World) (hr0 : Kd.C (Kd.int .i64) w A0 l0.length l0) (hc0 : l0.length ≤ c0) (h : imprimaturlaw07_bits.f k l0 = some r) :
  Calls Try.prog 26 #[.slice A0 l0.length c0] w fun e w' => e = .returned (.int .u32 r) ∧ Drawn0 w w' := by
 have HR0 := Aside0.mk hr0
 have HC0 := Aside0.mk hc0
 clear hr0 hc0
 have H : (imprimaturlaw07_bits.l0 k 0 l0 (l0.length : Int) 0) = some r := h
 clear h
 have H' := Aside0.mk H
 clear H
 go_enter Try.func26, Try.ntmps26
 go_wp2
 go_loopg [3, 8] k (fun kq v3 v8 w' => ∃ (x3_1 : Int) (x8_1 : Int), v3 = .int .u32 x3_1 ∧ v8 = .int .i64 x8_1 ∧ Aside0 (imprimaturlaw07_bits.l0 kq x3_1 l0 (l0.length : Int) x8_1 = some r) ∧ Aside0 (kq ≤ k) ∧ Drawn0 w w')
 case atStart => exact ⟨(0), (0), (by first | rfl | (simp; done) | (simp [*]; done)), (by first | rfl | (simp; done) | (simp [*]; done)), H', ⟨Nat.le_refl _⟩, by repeat (first | exact Drawn0.refl _ | apply Drawn0.step)⟩
 case round =>
  clear H'
  obtain ⟨x3_1, x8_1, rfl, rfl, HA, HK1, ⟨m1, rfl⟩⟩ := hrel
  cases gk with
  | zero => exact absurd HA.out (by simp [imprimaturlaw07_bits.l0])
  | succ k1 =>
   have H := HA.out
   clear HA
   simp only [imprimaturlaw07_bits.l0] at H
   by_cases c2 : x8_1 < (l0.length : Int)
   ·rw [if_pos c2] at H
    have c2b0 : decide (x8_1 < (l0.length : Int)) = true := decide_eq_true c2
    clear c2
    by_cases c3 : 0 ≤ x8_1
    ·rw [if_pos c3] at H
     have c3b0 : decide (0 ≤ x8_1) = true := decide_eq_true c3
     clear c3
     by_cases c4 : x8_1 < (l0.length : Int)
     ·rw [if_pos c4] at H
      have c4b0 : decide (x8_1 < (l0.length : Int)) = true := decide_eq_true c4
      clear c4
      by_cases c5 : (rd l0 x8_1) ≥ 0
      ·rw [if_pos c5] at H
       have c5b0 : decide (0 ≤ (rd l0 x8_1)) = true := decide_eq_true c5
       clear c5
       by_cases c6 : (rd l0 x8_1) < 32
       ·rw [if_pos c6] at H
        have c6b0 : decide ((rd l0 x8_1) < 32) = true := decide_eq_true c6
        clear c6
        obtain ⟨ji7, hji7⟩ : ∃ j_ : Int, (IntKind.u64.wrap (rd l0 x8_1)) = j_ := ⟨_, rfl⟩
        replace H : (if 0 ≤ (ji7) then (imprimaturlaw07_bits.l0 k1 (Go.bits .or .u32 x3_1 (shl .u32 1 (ji7))) l0 (l0.length : Int) (wrap64 (x8_1 + 1))) else (none)) = some r := by first | (rw [hji7] at H; exact H) | (simp only [hji7] at H ⊢; exact H)
        by_cases c8 : 0 ≤ (ji7)
        ·rw [if_pos c8] at H
         have c8b0 := eq_true c8
         have c8b1 : decide (0 ≤ (ji7)) = true := decide_eq_true c8
         clear c8
         obtain ⟨ji9, hji9⟩ : ∃ j_ : Int, (shl .u32 1 (ji7)) = j_ := ⟨_, rfl⟩
         replace H : (imprimaturlaw07_bits.l0 k1 (Go.bits .or .u32 x3_1 (ji9)) l0 (l0.length : Int) (wrap64 (x8_1 + 1))) = some r := by first | (rw [hji9] at H; exact H) | (simp only [hji9] at H ⊢; exact H)
         have hji9_ : (IntKind.u32.wrap (1 * 2 ^ min (ji7).toNat 32)) = ji9 := hji9
         have hji9z : (ji7) ≤ 32 → (IntKind.u32.wrap (1 * 2 ^ (ji7).toNat)) = ji9 := shl_small hji9
         have hji9u : (IntKind.u32.wrap (2 ^ min (ji7).toNat 32)) = ji9 := by have h_ := hji9_; rw [Int.one_mul] at h_; exact h_
         have hji9v : (ji7) ≤ 32 → (IntKind.u32.wrap (2 ^ (ji7).toNat)) = ji9 := fun hle_ => by have h_ := hji9z hle_; rw [Int.one_mul] at h_; exact h_
         have H' := Aside0.mk H
         clear H
         have p101 : 0 ≤ (x8_1 : Int) := of_decide_eq_true (by first | (with_reducible assumption) | assumption)
         have q101 : x8_1 < (l0.length : Int) := of_decide_eq_true (by first | (with_reducible assumption) | assumption)
         obtain ⟨ad101, e101, hx101_0⟩ := Kd.at_int HR0.out x8_1 p101 q101
         cases e101
         replace p101 := eq_true p101
         replace q101 := eq_true q101
         go_wp2
         go_roundg k1
         case measure => have := HK1.out; omega
         case rel => exact ⟨(Go.bits .or .u32 x3_1 (ji9)), (wrap64 (x8_1 + 1)), (by first | rfl | (simp; done) | (simp only [← hji9] <;> (first | rfl | simp)) | (simp [*]; done)), (by first | rfl | (simp; done) | (simp [*]; done)), (by first | exact H' | exact ⟨by simp only [hji7, hji9]; exact H'.out⟩), ⟨by have := HK1.out; omega⟩, by repeat (first | exact Drawn0.refl _ | apply Drawn0.step)⟩
        ·rw [if_neg c8] at H
         exact absurd H (by simp)
       ·rw [if_neg c6] at H
        have c6b0 : decide ((rd l0 x8_1) < 32) = false := decide_eq_false c6
        clear c6
        have H' := Aside0.mk H
        clear H
        have p101 : 0 ≤ (x8_1 : Int) := of_decide_eq_true (by first | (with_reducible assumption) | assumption)
        have q101 : x8_1 < (l0.length : Int) := of_decide_eq_true (by first | (with_reducible assumption) | assumption)
        obtain ⟨ad101, e101, hx101_0⟩ := Kd.at_int HR0.out x8_1 p101 q101
        cases e101
        replace p101 := eq_true p101
        replace q101 := eq_true q101
        go_wp2
        go_roundg k1
        case measure => have := HK1.out; omega
        case rel => exact ⟨(x3_1), (wrap64 (x8_1 + 1)), (by first | rfl | (simp; done) | (simp [*]; done)), (by first | rfl | (simp; done) | (simp [*]; done)), H', ⟨by have := HK1.out; omega⟩, by repeat (first | exact Drawn0.refl _ | apply Drawn0.step)⟩
      ·rw [if_neg c5] at H
       have c5b0 : decide (0 ≤ (rd l0 x8_1)) = false := decide_eq_false c5
       clear c5
       have H' := Aside0.mk H
       clear H
       have p101 : 0 ≤ (x8_1 : Int) := of_decide_eq_true (by first | (with_reducible assumption) | assumption)
       have q101 : x8_1 < (l0.length : Int) := of_decide_eq_true (by first | (with_reducible assumption) | assumption)
       obtain ⟨ad101, e101, hx101_0⟩ := Kd.at_int HR0.out x8_1 p101 q101
       cases e101
       replace p101 := eq_true p101
       replace q101 := eq_true q101
       go_wp2
       go_roundg k1
       case measure => have := HK1.out; omega
       case rel => exact ⟨(x3_1), (wrap64 (x8_1 + 1)), (by first | rfl | (simp; done) | (simp [*]; done)), (by first | rfl | (simp; done) | (simp [*]; done)), H', ⟨by have := HK1.out; omega⟩, by repeat (first | exact Drawn0.refl _ | apply Drawn0.step)⟩
     ·rw [if_neg c4] at H
      exact absurd H (by simp)
    ·rw [if_neg c3] at H
     exact absurd H (by simp)
   ·rw [if_neg c2] at H
    have c2b0 : decide (x8_1 < (l0.length : Int)) = false := decide_eq_false c2
    clear c2
    obtain rfl := Option.some.inj H
    go_wp2
    go_ret
    exact ⟨by first | rfl | (simp; done) | (simp [*]; done), by repeat (first | exact Drawn0.refl _ | apply Drawn0.step)⟩
end Go.Proofs.Ytnomeokicfpidaa.Q
namespace Go.Proofs.Ytnomeokicfpidaa.M
open Go.RowKit Go.Proofs.YtnomeokicfpidaaW.PrintWords Go.Proofs.YtnomeokicfpidaaW.PrintLast Go.Proofs.YtnomeokicfpidaaW.PrintMore
set_option linter.unusedVariables false
theorem w64 {x : Int} (h0 : -9223372036854775808 ≤ x) (h1 : x ≤ 9223372036854775807) : wrap64 x = x := by unfold wrap64; omega
theorem w1 (i : Nat) (h : i < 4611686018427387904) : wrap64 ((i : Int) + 1) = ((i + 1 : Nat) : Int) := by rw [w64 (by omega) (by omega)]; omega
theorem rd_nat (xs : List Int) (i : Nat) : rd xs (i : Int) = xs.getD i 0 := by simp [rd]
theorem Ev.st {α : Type} {g f : Nat → Option α} {r : α} (k : Ev f r) (h : ∀ k, g (k + 1) = f k) : Ev g r := Ev.step h k
theorem Ev.ret {α : Type} {g : Nat → Option α} {r : α} (h : ∀ k, g (k + 1) = some r) : Ev g r := Ev.step (f := fun _ => some r) h (Ev.now r)
theorem Ev.cg {α : Type} {g f : Nat → Option α} {r : α} (k : Ev f r) (h : ∀ k, g k = f k) : Ev g r := Ev.congr h k
theorem Ev.bd {α β : Type} {g : Nat → Option α} {f : Nat → α → Option β} {a : α} {r : β} (h : Ev g a) (k : Ev (fun n => f n a) r) : Ev (fun n => (g n).bind (fun x => f n x)) r := Ev.bind h k
theorem Ev.som {α β : Type} {f : Nat → α → Option β} {a : α} {r : β} (k : Ev (fun n => f n a) r) : Ev (fun n => (some a).bind (fun x => f n x)) r := k
theorem Ev.pos {α : Type} {c : Prop} [Decidable c] {f g : Nat → Option α} {r : α} (h : c) (k : Ev f r) : Ev (fun n => if c then f n else g n) r := by simpa [h] using k
theorem Ev.neg {α : Type} {c : Prop} [Decidable c] {f g : Nat → Option α} {r : α} (h : ¬ c) (k : Ev g r) : Ev (fun n => if c then f n else g n) r := by simpa [h] using k
theorem Ev.ite {α : Type} {c : Prop} [Decidable c] {f g : Nat → Option α} {r s : α} (k : c → Ev f r) (l : ¬ c → Ev g s) : Ev (fun n => if c then f n else g n) (if c then r else s) := by
 by_cases h : c
 ·simpa [h] using k h
 ·simpa [h] using l h
theorem Ev.iff {α : Type} {c : Prop} [Decidable c] {f g : Nat → Option α} {r : α} (k : c → Ev f r) (l : ¬ c → Ev g r) : Ev (fun n => if c then f n else g n) r := by
 by_cases h : c
 ·simpa [h] using k h
 ·simpa [h] using l h
theorem Ev.val {α : Type} {g : Nat → Option α} {r s : α} (h : Ev g r) (e : r = s) : Ev g s := e ▸ h
end Go.Proofs.Ytnomeokicfpidaa.M
namespace Go.Proofs.Ytnomeokicfpidaa.Q
open Go.RowKit Go.Proofs.YtnomeokicfpidaaW.PrintWords Go.Proofs.YtnomeokicfpidaaW.PrintLast Go.Proofs.YtnomeokicfpidaaW.PrintMore
attribute [local go_sem] max2_int min2_int max_two min_two max_three min_three max_four min_four
set_option linter.unusedVariables false
set_option linter.unusedSimpArgs false
def shape_solid.f (a0 : Int) : Option (Bool) := if a0 = 1 then (some true) else (some (a0 == 2))
set_option maxHeartbeats 8000000 in
set_option maxRecDepth 100000 in
theorem shape_solid.calls (a0 : Int) (r : Bool) (w : World) (h : shape_solid.f a0 = some r) :
  Calls Try.prog 45 #[.int .i64 a0] w fun e w' => e = .returned (.bool r) ∧ Drawn0 w w' := by
 have H : (if a0 = 1 then (some true) else (some (a0 == 2))) = some r := h
 clear h
 by_cases c2 : a0 = 1
 ·rw [if_pos c2] at H
  have c2b0 : (a0 == 1) = true := beq_iff_eq.mpr c2
  have c2b1 : (a0 != 1) = false := bne_eq_false_iff_eq.mpr c2
  clear c2
  obtain rfl := Option.some.inj H
  go_enter Try.func45, Try.ntmps45
  go_wp2
  go_ret
  exact ⟨by first | rfl | (simp; done) | (simp [*]; done), by repeat (first | exact Drawn0.refl _ | apply Drawn0.step)⟩
 ·rw [if_neg c2] at H
  have c2b0 : (a0 == 1) = false := beq_eq_false_iff_ne.mpr c2
  have c2b1 : (a0 != 1) = true := bne_iff_ne.mpr c2
  obtain rfl := Option.some.inj H
  go_enter Try.func45, Try.ntmps45
  go_wp2
  go_ret
  exact ⟨by first | rfl | (simp; done) | (simp [*]; done), by repeat (first | exact Drawn0.refl _ | apply Drawn0.step)⟩
end Go.Proofs.Ytnomeokicfpidaa.Q
namespace Go.Proofs.Ytnomeokicfpidaa.Q
open Go.RowKit Go.Proofs.YtnomeokicfpidaaW.PrintWords Go.Proofs.YtnomeokicfpidaaW.PrintLast Go.Proofs.YtnomeokicfpidaaW.PrintMore
attribute [local go_sem] max2_int min2_int max_two min_two max_three min_three max_four min_four
set_option linter.unusedVariables false
set_option linter.unusedSimpArgs false
def shape_Initial.l0 : Nat → List Int → Int → Int → List Int → List Int → Option (Int)
 | 0, _, _, _, _, _ => none
 | k + 1, x9, x10, x11, x102000, x102001 => if x11 < x10 then (if 0 ≤ x11 then (if x11 < (x9.length : Int) then (if 0 ≤ (rd x9 x11) then (if (rd x9 x11) < (x102000.length : Int) then ((shape_solid.f (rd x102000 (rd x9 x11))).bind fun t107 => (if t107 = true then (some (rd x9 x11)) else (shape_Initial.l0 k x9 x10 (wrap64 (x11 + 1)) x102000 x102001))) else (none)) else (none)) else (none)) else (none)) else (some (-1))
def shape_Initial.f (k : Nat) (l0_0 : List Int) (l0_1 : List Int) (a1 : Int) : Option (Int) := (shape_Kids.f k l0_0 l0_1 a1).bind fun t102 => (shape_Initial.l0 k t102 (t102.length : Int) 0 l0_0 l0_1)
set_option maxHeartbeats 8000000 in
set_option maxRecDepth 100000 in
theorem shape_Initial.calls (k : Nat) (A0_0 : Option Addr) (c0_0 : Nat) (l0_0 : List Int) (A0_1 : Option Addr) (c0_1 : Nat) (l0_1 : List Int) (a1 : Int) (r : Int) (w : World) (hr0_0 : Kd.C (Kd.int .i64) w A0_0 l0_0.length l0_0) (hc0_0 : l0_0.length ≤ c0_0) (hr0_1 : Kd.C (Kd.int .i64) w A0_1 l0_1.length l0_1) (hc0_1 : l0_1.length ≤ c0_1) (h : shape_Initial.f k l0_0 l0_1 a1 = some r) :
  Calls Try.prog 30 #[.agg #[.slice A0_0 l0_0.length c0_0, .slice A0_1 l0_1.length c0_1], .int .i64 a1] w fun e w' => e = .returned (.int .i64 r) ∧ Below w.heap.size w w' := by
 have hu24 := Try.underlying24
 have HR0_0 := Aside0.mk hr0_0
 have HC0_0 := Aside0.mk hc0_0
 clear hr0_0 hc0_0
 have HR0_1 := Aside0.mk hr0_1
 have HC0_1 := Aside0.mk hc0_1
 clear hr0_1 hc0_1
 have HB := Aside0.mk (Below.refl w.heap.size w)
 have H : ((shape_Kids.f k l0_0 l0_1 a1).bind fun t102 => (shape_Initial.l0 k t102 (t102.length : Int) 0 l0_0 l0_1)) = some r := h
 clear h
 replace H := Option.bind_eq_some_iff.mp H
 obtain ⟨t102, A30, H⟩ := H
 replace H : (shape_Initial.l0 k t102 (t102.length : Int) 0 l0_0 l0_1) = some r := H
 have A3 := Aside0.mk A30
 clear A30
 have H' := Aside0.mk H
 clear H
 go_enter Try.func30, Try.ntmps30
 go_wp2_with (first | ((with_reducible refine gate_dst (N := 2) rfl ?_); refine box_event ?hg (N := 2) ?hd (cs := #[.slice A0_0 l0_0.length c0_0, .slice A0_1 l0_1.length c0_1]) (t := 24) ?hr ?_; (case hd => rfl); (case hg => rfl); (case hr => first | (go_simp; done) | (go_simp; rfl)); intro gb101 hg w4 hbox hb; have n0_ := Aside0.mk (below_step (by repeat (first | (with_reducible first | exact HB.out | apply below_alloc | apply pw_below_drewN | apply below_drew1) | exact HB.out)) hb); have n1_ := Aside0.mk (hbox); have n2_ := Aside0.mk ((by rw [hg]; exact (below_size (by repeat (first | (with_reducible first | exact HB.out | apply below_alloc | apply pw_below_drewN | apply below_drew1) | exact HB.out))) : w.heap.size ≤ gb101)); have n3_ := Aside0.mk ((by rw [hg]; exact (below_size (by repeat (first | (with_reducible first | exact HB.out | apply below_alloc | apply pw_below_drewN | apply below_drew1) | exact HB.out))) : w.heap.size ≤ gb101)); clear HB; have HB := n0_; have BK101 := n1_; have GW101 := n2_; have GE101 := n3_; clear n0_ n1_ n2_ n3_; clear hb hbox hg; have hcz5_0 : w4.cell? ⟨gb101, 0, none⟩ = some (.slice A0_0 l0_0.length c0_0) := (blk_cell BK101.out 0).trans rfl; have hcz5_1 : w4.cell? ⟨gb101, 1, none⟩ = some (.slice A0_1 l0_1.length c0_1) := (blk_cell BK101.out 1).trans rfl; have hfz5_0 := blk_frozen BK101.out 0; have hfz5_1 := blk_frozen BK101.out 1) | ((with_reducible refine gate_callee (f := 25) rfl ?_); refine goesL_ (some 9) rfl rfl Try.func25 (by kernel_rfl) rfl #[.agg #[.slice A0_0 l0_0.length c0_0, .slice A0_1 l0_1.length c0_1], .int .i64 a1] rfl (by (try simp only [List.map_toArray, List.map_cons, List.map_nil]); first | done | rfl | (simp only [List.length_drop, List.length_take]; rfl)) ?_; (with_reducible refine (shape_Kids.calls k _ _ l0_0 _ _ l0_1 a1 t102 _ ?side1 ?side2 ?side3 ?side4 A3.out).mono ?_); (case side1 => repeat (first | exact (Kd.C_below HR0_0.out HB.out) | (with_reducible refine Kd.C_alloc ?_ _) | (with_reducible refine Kd.C_drewN ?_ _) | (with_reducible refine Kd.C_drew ?_))); (case side2 => exact HC0_0.out); (case side3 => repeat (first | exact (Kd.C_below HR0_1.out HB.out) | (with_reducible refine Kd.C_alloc ?_ _) | (with_reducible refine Kd.C_drewN ?_ _) | (with_reducible refine Kd.C_drew ?_))); (case side4 => exact HC0_1.out); rintro e w6 ⟨v103, rfl, ho0, hb⟩; refine ⟨_, rfl, ?_⟩; have n0_ := Aside0.mk (Kd.R_lower ho0 (below_size (by repeat (first | (with_reducible first | exact HB.out | apply below_alloc | apply pw_below_drewN | apply below_drew1 | refine below_set ?_ GE101.out) | exact HB.out)))); have n1_ := Aside0.mk (blk_below (g := gb101) (o := .cells #[.slice A0_0 l0_0.length c0_0, .slice A0_1 l0_1.length c0_1] 24 (0, 0)) (by (with_reducible repeat (first | refine blk_drewN ?_ _ | refine blk_drew ?_ | refine blk_alloc ?_ _)); exact BK101.out) hb); have n2_ := Aside0.mk (below_step (by repeat (first | (with_reducible first | exact HB.out | apply below_alloc | apply pw_below_drewN | apply below_drew1 | refine below_set ?_ GE101.out) | exact HB.out)) hb); clear BK101; clear HB; have HO104 := n0_; have BK101 := n1_; have HB := n2_; clear n0_ n1_ n2_; (try clear hb); (try clear hb2); (try clear hk); (try clear hi); (try clear ho0); obtain ⟨Ao7, co7, eo7⟩ := Kd.R_slice HO104.out; subst eo7))
 go_loopg [11] k (fun kq v11 w' => ∃ (x11_1 : Int), v11 = .int .i64 x11_1 ∧ Aside0 (shape_Initial.l0 kq t102 (t102.length : Int) x11_1 l0_0 l0_1 = some r) ∧ Aside0 (kq ≤ k) ∧ Aside0 (Kd.R (Kd.int .i64) 3 w' w.heap.size (fun _ => True) (.slice Ao7 t102.length co7) t102) ∧ Aside0 (w'.heap[gb101]? = some (.cells #[(.slice A0_0 l0_0.length c0_0), (.slice A0_1 l0_1.length c0_1)] 24 (0, 0))) ∧ Aside0 (Below w.heap.size w w'))
 case atStart => exact ⟨(0), (by first | rfl | (simp; done) | (simp [*]; done)), H', ⟨Nat.le_refl _⟩, ⟨by (with_reducible repeat (first | apply Kd.R_alloc | apply Kd.R_drewN | apply Kd.R_drew)); exact HO104.out⟩, ⟨by (with_reducible repeat (first | refine blk_drewN ?_ _ | refine blk_drew ?_ | refine blk_alloc ?_ _)); exact BK101.out⟩, ⟨by repeat (first | (with_reducible first | exact HB.out | apply below_alloc | apply pw_below_drewN | apply below_drew1 | refine below_set ?_ GE101.out) | exact HB.out)⟩⟩
 case round =>
  clear H'
  try clear c2
  try clear p2
  try clear c3
  try clear hcz5_0
  try clear hcz5_1
  try clear hfz5_0
  try clear hfz5_1
  obtain ⟨x11_1, rfl, HA, HK1, HO_9, BK101, HB⟩ := hrel
  cases gk with
  | zero => exact absurd HA.out (by simp [shape_Initial.l0])
  | succ k1 =>
   have H := HA.out
   clear HA
   simp only [shape_Initial.l0] at H
   by_cases c8 : x11_1 < (t102.length : Int)
   ·rw [if_pos c8] at H
    have c8b0 : decide (x11_1 < (t102.length : Int)) = true := decide_eq_true c8
    clear c8
    by_cases c9 : 0 ≤ x11_1
    ·rw [if_pos c9] at H
     have c9b0 : decide (0 ≤ x11_1) = true := decide_eq_true c9
     clear c9
     by_cases c10 : x11_1 < (t102.length : Int)
     ·rw [if_pos c10] at H
      have c10b0 : decide (x11_1 < (t102.length : Int)) = true := decide_eq_true c10
      clear c10
      by_cases c11 : 0 ≤ (rd t102 x11_1)
      ·rw [if_pos c11] at H
       have c11b0 : decide (0 ≤ (rd t102 x11_1)) = true := decide_eq_true c11
       clear c11
       by_cases c12 : (rd t102 x11_1) < (l0_0.length : Int)
       ·rw [if_pos c12] at H
        have c12b0 : decide ((rd t102 x11_1) < (l0_0.length : Int)) = true := decide_eq_true c12
        clear c12
        replace H := Option.bind_eq_some_iff.mp H
        obtain ⟨t107, A130, H⟩ := H
        replace H : (if t107 = true then (some (rd t102 x11_1)) else (shape_Initial.l0 k1 t102 (t102.length : Int) (wrap64 (x11_1 + 1)) l0_0 l0_1)) = some r := H
        have A13 := Aside0.mk A130
        clear A130
        by_cases c14 : t107 = true
        ·subst c14
         have H1 : (some (rd t102 x11_1)) = some r := by rw [if_pos rfl] at H; exact H
         clear H
         have H := H1
         clear H1
         obtain rfl := Option.some.inj H
         have p105 : 0 ≤ (x11_1 : Int) := of_decide_eq_true (by first | (with_reducible assumption) | assumption)
         have q105 : x11_1 < (t102.length : Int) := of_decide_eq_true (by first | (with_reducible assumption) | assumption)
         obtain ⟨ad105, e105, hx105_0⟩ := Kd.at_int (Kd.R_reads' HO_9.out).2.2 x11_1 p105 q105
         cases e105
         replace p105 := eq_true p105
         replace q105 := eq_true q105
         have hcz15_0 : wr.cell? ⟨gb101, 0, none⟩ = some (.slice A0_0 l0_0.length c0_0) := (blk_cell BK101.out 0).trans rfl
         have hcz15_1 : wr.cell? ⟨gb101, 1, none⟩ = some (.slice A0_1 l0_1.length c0_1) := (blk_cell BK101.out 1).trans rfl
         have hfz15_0 := blk_frozen BK101.out 0
         have hfz15_1 := blk_frozen BK101.out 1
         have p106 : 0 ≤ ((rd t102 x11_1) : Int) := of_decide_eq_true (by first | (with_reducible assumption) | assumption)
         have q106 : (rd t102 x11_1) < (l0_0.length : Int) := of_decide_eq_true (by first | (with_reducible assumption) | assumption)
         obtain ⟨ad106, e106, hx106_0⟩ := Kd.at_int HR0_0.out (rd t102 x11_1) p106 q106
         cases e106
         replace hx106_0 := (HB.out.cell (World.block_lt_of_cell? w _ hx106_0)).trans hx106_0
         replace p106 := eq_true p106
         replace q106 := eq_true q106
         go_wp2_with (first | ((with_reducible refine gate_callee (f := 45) rfl ?_); refine goesL_ (some 20) rfl rfl Try.func45 (by kernel_rfl) rfl #[.int .i64 (rd l0_0 (rd t102 x11_1))] rfl (by (try simp only [List.map_toArray, List.map_cons, List.map_nil]); first | done | rfl | (simp only [List.length_drop, List.length_take]; rfl)) ?_; (with_reducible refine (shape_solid.calls (rd l0_0 (rd t102 x11_1)) true _ A13.out).mono ?_); rintro e w' ⟨rfl, ⟨nd, rfl⟩⟩; refine ⟨_, rfl, ?_⟩))
         go_ret
         exact ⟨by first | rfl | (simp [errW_none, errW_some] <;> rfl) | (simp [*, errW_none, errW_some] <;> rfl), by repeat (first | (with_reducible first | exact HB.out | apply below_alloc | apply pw_below_drewN | apply below_drew1 | refine below_set ?_ GE101.out) | exact HB.out)⟩
        ·replace c14 := Bool.eq_false_iff.mpr c14
         subst c14
         have H1 : (shape_Initial.l0 k1 t102 (t102.length : Int) (wrap64 (x11_1 + 1)) l0_0 l0_1) = some r := by rw [if_neg (show ¬ (false = true) by decide)] at H; exact H
         clear H
         have H := H1
         clear H1
         have H' := Aside0.mk H
         clear H
         have p105 : 0 ≤ (x11_1 : Int) := of_decide_eq_true (by first | (with_reducible assumption) | assumption)
         have q105 : x11_1 < (t102.length : Int) := of_decide_eq_true (by first | (with_reducible assumption) | assumption)
         obtain ⟨ad105, e105, hx105_0⟩ := Kd.at_int (Kd.R_reads' HO_9.out).2.2 x11_1 p105 q105
         cases e105
         replace p105 := eq_true p105
         replace q105 := eq_true q105
         have hcz16_0 : wr.cell? ⟨gb101, 0, none⟩ = some (.slice A0_0 l0_0.length c0_0) := (blk_cell BK101.out 0).trans rfl
         have hcz16_1 : wr.cell? ⟨gb101, 1, none⟩ = some (.slice A0_1 l0_1.length c0_1) := (blk_cell BK101.out 1).trans rfl
         have hfz16_0 := blk_frozen BK101.out 0
         have hfz16_1 := blk_frozen BK101.out 1
         have p106 : 0 ≤ ((rd t102 x11_1) : Int) := of_decide_eq_true (by first | (with_reducible assumption) | assumption)
         have q106 : (rd t102 x11_1) < (l0_0.length : Int) := of_decide_eq_true (by first | (with_reducible assumption) | assumption)
         obtain ⟨ad106, e106, hx106_0⟩ := Kd.at_int HR0_0.out (rd t102 x11_1) p106 q106
         cases e106
         replace hx106_0 := (HB.out.cell (World.block_lt_of_cell? w _ hx106_0)).trans hx106_0
         replace p106 := eq_true p106
         replace q106 := eq_true q106
         go_wp2_with (first | ((with_reducible refine gate_callee (f := 45) rfl ?_); refine goesL_ (some 20) rfl rfl Try.func45 (by kernel_rfl) rfl #[.int .i64 (rd l0_0 (rd t102 x11_1))] rfl (by (try simp only [List.map_toArray, List.map_cons, List.map_nil]); first | done | rfl | (simp only [List.length_drop, List.length_take]; rfl)) ?_; (with_reducible refine (shape_solid.calls (rd l0_0 (rd t102 x11_1)) false _ A13.out).mono ?_); rintro e w' ⟨rfl, ⟨nd, rfl⟩⟩; refine ⟨_, rfl, ?_⟩))
         go_roundg k1
         case measure => have := HK1.out; omega
         case rel => exact ⟨(wrap64 (x11_1 + 1)), (by first | rfl | (simp; done) | (simp [*]; done)), H', ⟨by have := HK1.out; omega⟩, ⟨by (with_reducible repeat (first | apply Kd.R_alloc | apply Kd.R_drewN | apply Kd.R_drew)); exact HO_9.out⟩, ⟨by (with_reducible repeat (first | refine blk_drewN ?_ _ | refine blk_drew ?_ | refine blk_alloc ?_ _)); exact BK101.out⟩, ⟨by repeat (first | (with_reducible first | exact HB.out | apply below_alloc | apply pw_below_drewN | apply below_drew1 | refine below_set ?_ GE101.out) | exact HB.out)⟩⟩
       ·rw [if_neg c12] at H
        exact absurd H (by simp)
      ·rw [if_neg c11] at H
       exact absurd H (by simp)
     ·rw [if_neg c10] at H
      exact absurd H (by simp)
    ·rw [if_neg c9] at H
     exact absurd H (by simp)
   ·rw [if_neg c8] at H
    have c8b0 : decide (x11_1 < (t102.length : Int)) = false := decide_eq_false c8
    clear c8
    obtain rfl := Option.some.inj H
    go_wp2
    go_ret
    exact ⟨by first | rfl | (simp [errW_none, errW_some] <;> rfl) | (simp [*, errW_none, errW_some] <;> rfl), by repeat (first | (with_reducible first | exact HB.out | apply below_alloc | apply pw_below_drewN | apply below_drew1 | refine below_set ?_ GE101.out) | exact HB.out)⟩
end Go.Proofs.Ytnomeokicfpidaa.Q
namespace Go.Proofs.Ytnomeokicfpidaa.Q
open Go.RowKit Go.Proofs.YtnomeokicfpidaaW.PrintWords Go.Proofs.YtnomeokicfpidaaW.PrintLast Go.Proofs.YtnomeokicfpidaaW.PrintMore
attribute [local go_sem] max2_int min2_int max_two min_two max_three min_three max_four min_four
set_option linter.unusedVariables false
set_option linter.unusedSimpArgs false
mutual
def shape_Valid.j0 : Nat → Int → Bool → List Int → List Int → Option (Bool)
 | 0, _, _, _, _ => none
 | k + 1, x3, x23, x102000, x102001 => if x23 = true then (some false) else (shape_Valid.l0 k x3 x102000 (x102000.length : Int) 0 x102000 x102001)
def shape_Valid.l0 : Nat → Int → List Int → Int → Int → List Int → List Int → Option (Bool)
 | 0, _, _, _, _, _, _ => none
 | k + 1, x3, x25, x26, x27, x102000, x102001 => if x27 < x26 then (if 0 ≤ x27 then (if x27 < (x25.length : Int) then (if x27 < (x102001.length : Int) then (if (rd x25 x27) < 1 then (shape_Valid.j2 k x3 (rd x25 x27) (rd x102001 x27) x25 x26 x27 true x102000 x102001) else (if (rd x25 x27) > 4 then (shape_Valid.j2 k x3 (rd x25 x27) (rd x102001 x27) x25 x26 x27 true x102000 x102001) else (if (rd x102001 x27) < (-1) then (shape_Valid.j2 k x3 (rd x25 x27) (rd x102001 x27) x25 x26 x27 true x102000 x102001) else (shape_Valid.j2 k x3 (rd x25 x27) (rd x102001 x27) x25 x26 x27 (decide ((rd x102001 x27) ≥ x27)) x102000 x102001)))) else (none)) else (none)) else (none)) else (shape_Valid.l1 k x3 (-1) x102000 x102001)
def shape_Valid.j2 : Nat → Int → Int → Int → List Int → Int → Int → Bool → List Int → List Int → Option (Bool)
 | 0, _, _, _, _, _, _, _, _, _ => none
 | k + 1, x3, x5, x6, x25, x26, x27, x51, x102000, x102001 => if x51 = true then (some false) else (if x6 = (-1) then ((shape_solid.f x5).bind fun t104 => (if t104 = true then (shape_Valid.l0 k x3 x25 x26 (wrap64 (x27 + 1)) x102000 x102001) else (some false))) else (if 0 ≤ x6 then (if x6 < (x102000.length : Int) then ((shape_solid.f (rd x102000 x6)).bind fun t106 => (if t106 = true then ((shape_solid.f x5).bind fun t107 => (if t107 = true then (shape_Valid.l0 k x3 x25 x26 (wrap64 (x27 + 1)) x102000 x102001) else (if (rd x102000 x6) = 1 then (shape_Valid.l0 k x3 x25 x26 (wrap64 (x27 + 1)) x102000 x102001) else (some false)))) else (some false))) else (none)) else (none)))
def shape_Valid.l1 : Nat → Int → Int → List Int → List Int → Option (Bool)
 | 0, _, _, _, _ => none
 | k + 1, x3, x7, x102000, x102001 => if x7 < x3 then (if x7 = (-1) then ((shape_Initial.f k x102000 x102001 x7).bind fun t109 => (if t109 < 0 then (some false) else (shape_Valid.l1 k x3 (wrap64 (x7 + 1)) x102000 x102001))) else ((shape_Kids.f k x102000 x102001 x7).bind fun t110 => (if (t110.length : Int) > 0 then ((shape_Initial.f k x102000 x102001 x7).bind fun t113 => (if t113 < 0 then (some false) else (shape_Valid.l1 k x3 (wrap64 (x7 + 1)) x102000 x102001))) else (shape_Valid.l1 k x3 (wrap64 (x7 + 1)) x102000 x102001)))) else (some true)
end
def shape_Valid.f (k : Nat) (l0_0 : List Int) (l0_1 : List Int) : Option (Bool) := if (l0_0.length : Int) < 1 then (shape_Valid.j0 k (l0_0.length : Int) true l0_0 l0_1) else (if (l0_0.length : Int) > 24 then (shape_Valid.j0 k (l0_0.length : Int) true l0_0 l0_1) else (shape_Valid.j0 k (l0_0.length : Int) ((l0_1.length : Int) != (l0_0.length : Int)) l0_0 l0_1))
end Go.Proofs.Ytnomeokicfpidaa.Q
namespace Go.Proofs.Ytnomeokicfpidaa.Q
open Go.RowKit Go.Proofs.YtnomeokicfpidaaW.PrintWords Go.Proofs.YtnomeokicfpidaaW.PrintLast Go.Proofs.YtnomeokicfpidaaW.PrintMore
attribute [local go_sem] max2_int min2_int max_two min_two max_three min_three max_four min_four
set_option linter.unusedVariables false
set_option linter.unusedSimpArgs false
def imprimaturref06_Shape_Initial.l0 : Nat → List Int → Int → Int → List Int → List Int → Option (Int)
 | 0, _, _, _, _, _ => none
 | k + 1, x9, x10, x11, x102000, x102001 => if x11 < x10 then (if 0 ≤ x11 then (if x11 < (x9.length : Int) then (if 0 ≤ (rd x9 x11) then (if (rd x9 x11) < (x102000.length : Int) then (if (rd x102000 (rd x9 x11)) ≤ 2 then (some (rd x9 x11)) else (imprimaturref06_Shape_Initial.l0 k x9 x10 (wrap64 (x11 + 1)) x102000 x102001)) else (none)) else (none)) else (none)) else (none)) else (some (-1))
def imprimaturref06_Shape_Initial.f (k : Nat) (l0_0 : List Int) (l0_1 : List Int) (a1 : Int) : Option (Int) := (imprimaturref06_Shape_Kids.f k l0_0 l0_1 a1).bind fun t102 => (imprimaturref06_Shape_Initial.l0 k t102 (t102.length : Int) 0 l0_0 l0_1)
end Go.Proofs.Ytnomeokicfpidaa.Q
namespace Go.Proofs.Ytnomeokicfpidaa.M
open Go.RowKit Go.Proofs.YtnomeokicfpidaaW.PrintWords Go.Proofs.YtnomeokicfpidaaW.PrintLast Go.Proofs.YtnomeokicfpidaaW.PrintMore Go.Proofs.Ytnomeokicfpidaa.Q
set_option linter.unusedVariables false
def solidB (k : Int) : Bool := k == 1 || k == 2
def kidsFrom (P : List Int) (at_ : Int) (i d : Nat) : List Int := ((List.range' i d).filter (fun j => decide (P.getD j 0 = at_))).map (fun j : Nat => (j : Int))
def kids (P : List Int) (at_ : Int) : List Int := kidsFrom P at_ 0 P.length
theorem kidsFrom_succ (P : List Int) (a : Int) (i d : Nat) : kidsFrom P a i (d + 1) = if P.getD i 0 = a then (i : Int) :: kidsFrom P a (i + 1) d else kidsFrom P a (i + 1) d := by
 unfold kidsFrom
 rw [List.range'_succ, List.filter_cons]
 by_cases h : P.getD i 0 = a
 ·rw [if_pos h, if_pos (decide_eq_true h)]; rfl
 ·rw [if_neg h, if_neg (by rw [decide_eq_false h]; simp)]
theorem solidB_iff {k : Int} : solidB k = true ↔ k = 1 ∨ k = 2 := by unfold solidB; simp
theorem kids_len (P : List Int) (a : Int) : (kids P a).length ≤ P.length := by
 unfold kids kidsFrom
 rw [List.length_map]
 exact Nat.le_trans (List.length_filter_le _ _) (by simp)
theorem mem_kids {P : List Int} {a x : Int} : x ∈ kids P a ↔ ∃ j : Nat, x = j ∧ j < P.length ∧ P.getD j 0 = a := by
 unfold kids kidsFrom
 constructor
 ·intro h
  obtain ⟨j, hj, rfl⟩ := List.mem_map.1 h
  obtain ⟨h1, h2⟩ := List.mem_filter.1 hj
  rw [List.mem_range'_1] at h1
  exact ⟨j, rfl, by omega, by simpa using h2⟩
 ·rintro ⟨j, rfl, h1, h2⟩
  exact List.mem_map.2 ⟨j, List.mem_filter.2 ⟨List.mem_range'_1.2 ⟨by omega, by omega⟩, by simpa using h2⟩, rfl⟩
theorem solid_f (a : Int) : shape_solid.f a = some (solidB a) := by
 unfold shape_solid.f solidB
 by_cases h : a = 1
 ·simp [h]
 ·rw [if_neg h]; simp [h]
theorem Kids_l0 (a : Int) (P : List Int) (hP : P.length < 1099511627776) : ∀ (d i : Nat) (acc : List Int), i + d = P.length → acc.length ≤ i →
  Ev (fun k => shape_Kids.l0 k a acc P (P.length : Int) (i : Int)) (acc ++ kidsFrom P a i d) := by
 intro d
 induction d with
 | zero =>
  intro i acc hi ha
  refine Ev.ret (fun k => ?_)
  simp only [shape_Kids.l0]
  rw [if_neg (by omega)]
  simp [kidsFrom]
 | succ d ih =>
  intro i acc hi ha
  rw [kidsFrom_succ]
  by_cases hp : P.getD i 0 = a
  ·rw [if_pos hp]
   refine Ev.st (Ev.val (ih (i + 1) (acc ++ [(i : Int)]) (by omega) (by simp; omega)) (by simp)) (fun k => ?_)
   simp only [shape_Kids.l0]
   rw [if_pos (by omega), if_pos (by omega), if_pos (by omega), rd_nat, if_pos hp, if_pos (by omega), w1 i (by omega)]
  ·rw [if_neg hp]
   refine Ev.st (ih (i + 1) acc (by omega) (by omega)) (fun k => ?_)
   simp only [shape_Kids.l0]
   rw [if_pos (by omega), if_pos (by omega), if_pos (by omega), rd_nat, if_neg hp, w1 i (by omega)]
theorem Kids_f (K P : List Int) (a : Int) (hP : P.length < 1099511627776) : Ev (fun k => shape_Kids.f k K P a) (kids P a) := by
 have h := Kids_l0 a P hP P.length 0 [] (by omega) (by simp)
 simpa [shape_Kids.f, kids] using h
theorem rKids_l0 (a : Int) (K P : List Int) (hP : P.length < 1099511627776) : ∀ (d i : Nat) (acc : List Int), i + d = P.length → acc.length ≤ i →
  Ev (fun k => imprimaturref06_Shape_Kids.l0 k a acc (P.length : Int) (i : Int) K P) (acc ++ kidsFrom P a i d) := by
 intro d
 induction d with
 | zero =>
  intro i acc hi ha
  refine Ev.ret (fun k => ?_)
  simp only [imprimaturref06_Shape_Kids.l0]
  rw [if_neg (by omega)]
  simp [kidsFrom]
 | succ d ih =>
  intro i acc hi ha
  rw [kidsFrom_succ]
  by_cases hp : P.getD i 0 = a
  ·rw [if_pos hp]
   refine Ev.st (Ev.val (ih (i + 1) (acc ++ [(i : Int)]) (by omega) (by simp; omega)) (by simp)) (fun k => ?_)
   simp only [imprimaturref06_Shape_Kids.l0]
   rw [if_pos (by omega), if_pos (by omega), if_pos (by omega), rd_nat, if_pos hp, if_pos (by omega), w1 i (by omega)]
  ·rw [if_neg hp]
   refine Ev.st (ih (i + 1) acc (by omega) (by omega)) (fun k => ?_)
   simp only [imprimaturref06_Shape_Kids.l0]
   rw [if_pos (by omega), if_pos (by omega), if_pos (by omega), rd_nat, if_neg hp, w1 i (by omega)]
theorem rKids_f (K P : List Int) (a : Int) (hP : P.length < 1099511627776) : Ev (fun k => imprimaturref06_Shape_Kids.f k K P a) (kids P a) := by
 have h := rKids_l0 a K P hP P.length 0 [] (by omega) (by simp)
 simpa [imprimaturref06_Shape_Kids.f, kids] using h
def firstSolid (K : List Int) : List Int → Int
 | [] => -1
 | x :: xs => if solidB (rd K x) = true then x else firstSolid K xs
def initial (K P : List Int) (a : Int) : Int := firstSolid K (kids P a)
theorem Initial_l0 (K P : List Int) (L : List Int) (hL : ∀ x ∈ L, 0 ≤ x ∧ x < (K.length : Int)) (hl : L.length < 1099511627776) : ∀ (d i : Nat), i + d = L.length →
  Ev (fun k => shape_Initial.l0 k L (L.length : Int) (i : Int) K P) (firstSolid K (L.drop i)) := by
 intro d
 induction d with
 | zero =>
  intro i hi
  refine Ev.ret (fun k => ?_)
  simp only [shape_Initial.l0]
  rw [if_neg (by omega), List.drop_of_length_le (by omega)]; rfl
 | succ d ih =>
  intro i hi
  have hd : L.drop i = L.getD i 0 :: L.drop (i + 1) := by
   rw [List.drop_eq_getElem_cons (by omega), List.getD_eq_getElem?_getD, List.getElem?_eq_getElem (by omega)]; rfl
  have hm : L.getD i 0 ∈ L := by rw [List.getD_eq_getElem?_getD, List.getElem?_eq_getElem (by omega)]; exact List.getElem_mem _
  have hb := hL _ hm
  rw [hd, firstSolid]
  by_cases hs : solidB (rd K (L.getD i 0)) = true
  ·refine Ev.ret (fun k => ?_)
   simp only [shape_Initial.l0]
   rw [if_pos (by omega), if_pos (by omega), if_pos (by omega), rd_nat, if_pos hb.1, if_pos hb.2, solid_f, Option.bind_some, if_pos hs, if_pos hs]
  ·rw [if_neg hs]
   refine Ev.st (ih (i + 1) (by omega)) (fun k => ?_)
   simp only [shape_Initial.l0]
   rw [if_pos (by omega), if_pos (by omega), if_pos (by omega), rd_nat, if_pos hb.1, if_pos hb.2, solid_f, Option.bind_some, if_neg hs, w1 i (by omega)]
theorem kids_in {K P : List Int} (hn : P.length = K.length) (a : Int) : ∀ x ∈ kids P a, 0 ≤ x ∧ x < (K.length : Int) := by
 intro x hx
 obtain ⟨j, rfl, h1, _⟩ := mem_kids.1 hx
 omega
theorem Initial_f (K P : List Int) (a : Int) (hn : P.length = K.length) (hP : P.length < 1099511627776) : Ev (fun k => shape_Initial.f k K P a) (initial K P a) := by
 unfold shape_Initial.f
 refine Ev.bd (Kids_f K P a hP) ?_
 have h := Initial_l0 K P (kids P a) (kids_in hn a) (Nat.lt_of_le_of_lt (kids_len P a) hP) (kids P a).length 0 (by omega)
 simpa [initial] using h
def okS (K P : List Int) (i : Nat) : Bool :=
 decide (1 ≤ K.getD i 0) && (decide (K.getD i 0 ≤ 4) && (decide (-1 ≤ P.getD i 0) && (decide (P.getD i 0 < i) &&
  (if P.getD i 0 = -1 then solidB (K.getD i 0) else solidB (rd K (P.getD i 0)) && (solidB (K.getD i 0) || rd K (P.getD i 0) == 1)))))
def compB (K P : List Int) (a : Int) : Bool := (a != -1 && (kids P a).isEmpty) || decide (0 ≤ initial K P a)
def compsB (K P : List Int) : Bool := compB K P (-1) && (List.range' 0 K.length).all (fun j => compB K P (j : Int))
def validB (K P : List Int) : Bool := decide (1 ≤ K.length ∧ K.length ≤ 24 ∧ P.length = K.length) && ((List.range' 0 K.length).all (okS K P) && compsB K P)
theorem okS_iff {K P : List Int} {i : Nat} : okS K P i = true ↔ 1 ≤ K.getD i 0 ∧ K.getD i 0 ≤ 4 ∧ -1 ≤ P.getD i 0 ∧ P.getD i 0 < i ∧
  (if P.getD i 0 = -1 then solidB (K.getD i 0) else solidB (rd K (P.getD i 0)) && (solidB (K.getD i 0) || rd K (P.getD i 0) == 1)) = true := by
 unfold okS
 simp only [Bool.and_eq_true, decide_eq_true_eq]
end Go.Proofs.Ytnomeokicfpidaa.M
namespace Go.Proofs.Ytnomeokicfpidaa.M
open Go.RowKit Go.Proofs.YtnomeokicfpidaaW.PrintWords Go.Proofs.YtnomeokicfpidaaW.PrintLast Go.Proofs.YtnomeokicfpidaaW.PrintMore
set_option linter.unusedVariables false
def Ok (K P : List Int) : Prop := P.length = K.length ∧ 1 ≤ K.length ∧ (∀ i, i < K.length → okS K P i = true) ∧ (∀ a, kids P a ≠ [] → 0 ≤ initial K P a) ∧ K.length ≤ 24
theorem Ok.of_valid {K P : List Int} (h : validB K P = true) : Ok K P := by
 unfold validB compsB at h
 rw [Bool.and_eq_true, decide_eq_true_eq, Bool.and_eq_true, Bool.and_eq_true, List.all_eq_true, List.all_eq_true] at h
 obtain ⟨⟨h1, h2, h3⟩, h4, h5, h6⟩ := h
 have ok : ∀ i, i < K.length → okS K P i = true := fun i hi => h4 i (List.mem_range'_1.2 ⟨by omega, by omega⟩)
 refine ⟨h3, h1, ok, fun a ha => ?_, h2⟩
 obtain ⟨x, hx⟩ := List.exists_mem_of_ne_nil _ ha
 obtain ⟨j, rfl, j1, j2⟩ := mem_kids.1 hx
 obtain ⟨_, _, b1, b2, _⟩ := okS_iff.1 (ok j (by omega))
 rw [j2] at b1 b2
 by_cases e : a = -1
 ·subst e
  unfold compB at h5
  simpa using h5
 ·have := h6 a.toNat (List.mem_range'_1.2 ⟨by omega, by omega⟩)
  rw [show ((a.toNat : Nat) : Int) = a by omega] at this
  unfold compB at this
  rw [show (a != -1) = true from bne_iff_ne.mpr e, Bool.true_and, Bool.or_eq_true, decide_eq_true_eq] at this
  rcases this with h | h
  ·exact absurd (List.isEmpty_iff.1 h) ha
  ·exact h
theorem firstSolid_cases (K : List Int) : ∀ L : List Int, firstSolid K L = -1 ∨ (firstSolid K L ∈ L ∧ solidB (rd K (firstSolid K L)) = true)
 | [] => .inl rfl
 | x :: L => by
  rw [firstSolid]
  by_cases h : solidB (rd K x) = true
  ·rw [if_pos h]; exact .inr ⟨List.mem_cons_self .., h⟩
  ·rw [if_neg h]
   rcases firstSolid_cases K L with h | ⟨h, h'⟩
   ·exact .inl h
   ·exact .inr ⟨List.mem_cons_of_mem _ h, h'⟩
theorem initial_cases (K P : List Int) (a : Int) : initial K P a = -1 ∨ (initial K P a ∈ kids P a ∧ solidB (rd K (initial K P a)) = true) := firstSolid_cases K (kids P a)
section
variable {K P : List Int} (h : Ok K P)
include h
theorem Ok.kid {a x : Int} (hx : x ∈ kids P a) : 0 ≤ x ∧ x < K.length ∧ a < x ∧ -1 ≤ a ∧ (a = -1 → solidB (rd K x) = true) ∧ (a ≠ -1 → solidB (rd K a) = true ∧ (solidB (rd K x) = true ∨ rd K a = 1)) := by
 obtain ⟨j, rfl, j1, j2⟩ := mem_kids.1 hx
 have hn := h.1
 obtain ⟨_, _, b1, b2, b3⟩ := okS_iff.1 (h.2.2.1 j (by omega))
 rw [j2] at b1 b2 b3
 rw [rd_nat]
 refine ⟨by omega, by omega, b2, b1, fun e => ?_, fun e => ?_⟩
 ·rw [if_pos e] at b3; exact b3
 ·rw [if_neg e, Bool.and_eq_true, Bool.or_eq_true, beq_iff_eq] at b3; exact b3
end
end Go.Proofs.Ytnomeokicfpidaa.M
namespace Go.Proofs.Ytnomeokicfpidaa.M
open Go.RowKit Go.Proofs.YtnomeokicfpidaaW.PrintWords Go.Proofs.YtnomeokicfpidaaW.PrintLast Go.Proofs.YtnomeokicfpidaaW.PrintMore
set_option linter.unusedVariables false
def inS (K P : List Int) : Nat → Int → List Int
 | 0, _ => []
 | f + 1, a => if rd K a = 2 then a :: (kids P a).flatMap (inS K P f) else a :: (if 0 ≤ initial K P a then inS K P f (initial K P a) else [])
end Go.Proofs.Ytnomeokicfpidaa.M
namespace Go.Proofs.Ytnomeokicfpidaa.EW
open Go.RowKit Go.Proofs.YtnomeokicfpidaaW.PrintWords Go.Proofs.YtnomeokicfpidaaW.PrintLast Go.Proofs.YtnomeokicfpidaaW.PrintMore Go.Proofs.Ytnomeokicfpidaa.Q Go.Proofs.Ytnomeokicfpidaa.M
attribute [local go_sem] max2_int min2_int max_two min_two max_three min_three max_four min_four
set_option linter.unusedVariables false
set_option linter.unusedSimpArgs false
theorem infoI : (Try.prog.info? 3).map (fun i => (i.zero, i.size, i.bytes)) = some (some (.int .i64 0), 1, 8) := by kernel_rfl
structure WW (w0 w : World) (g : Nat) (sK sP sQ v : Value) (out : List Int) : Prop where
 below : Below w0.heap.size w0 w
 ge : w0.heap.size ≤ g
 blk : w.heap[g]? = some (.cells #[sK, sP, sQ, v] 70 (0, 0))
 own : Kd.R (Kd.int .i64) 3 w w0.heap.size (fun _ => True) v out
structure Fr (w w' : World) (g : Nat) (v v' : Value) : Prop where
 size : w.heap.size ≤ w'.heap.size
 block : ∀ k, k < w.heap.size → k ≠ g → some k ≠ v.ownBlock → w'.heap[k]? = w.heap[k]?
 row : v'.ownBlock = v.ownBlock ∨ ∃ b, v'.ownBlock = some b ∧ w.heap.size ≤ b
theorem Fr.refl (w : World) (g : Nat) (v : Value) : Fr w w g v v := ⟨Nat.le_refl _, fun _ _ _ _ => rfl, .inl rfl⟩
theorem Fr.trans {w w1 w2 : World} {g : Nat} {v v1 v2 : Value} (h : Fr w w1 g v v1) (k : Fr w1 w2 g v1 v2) : Fr w w2 g v v2 := by
 refine ⟨Nat.le_trans h.size k.size, fun j hj hg hv => ?_, ?_⟩
 ·refine (k.block j (Nat.lt_of_lt_of_le hj h.size) hg (fun e => ?_)).trans (h.block j hj hg hv)
  rcases h.row with r | ⟨b, r, hb⟩
  ·exact hv (by rw [e, r])
  ·rw [r] at e; injection e with e; omega
 ·rcases k.row with r | ⟨b, r, hb⟩
  ·rcases h.row with r' | ⟨b, r', hb⟩
   ·exact .inl (r.trans r')
   ·exact .inr ⟨b, r.trans r', hb⟩
  ·exact .inr ⟨b, r, Nat.le_trans h.size hb⟩
theorem Fr.of_below {w w1 : World} (h : Below w.heap.size w w1) (g : Nat) (v : Value) : Fr w w1 g v v := ⟨h.size, fun k hk _ _ => h.block k hk, .inl rfl⟩
def Put (w0 w : World) (g : Nat) (sK sP sQ v : Value) (r : List Int) (e : Ending) (w' : World) : Prop := e = .returned (.tuple #[]) ∧ ∃ v', WW w0 w' g sK sP sQ v' r ∧ Fr w w' g v v'
theorem WW.lt {w0 w : World} {g : Nat} {sK sP sQ v : Value} {out : List Int} (h : WW w0 w g sK sP sQ v out) : g < w.heap.size := blk_lt h.blk
theorem WW.push {w0 w w1 : World} {g : Nat} {sK sP sQ v v1 : Value} {out r : List Int} (h : WW w0 w g sK sP sQ v out) (ho : Kd.R (Kd.int .i64) 3 w1 w0.heap.size (fun _ => True) v1 r)
  (hb : Below w0.heap.size w0 w1) (hg : w.grownBy w1 v.ownBlock) (hat : v1.ownBlock = v.ownBlock ∨ ∃ b, v1.ownBlock = some b ∧ w.heap.size ≤ b) :
  w1.heap[g]? = some (.cells #[sK, sP, sQ, v] 70 (0, 0)) ∧ WW w0 (w1.setCell ⟨g, 3, none⟩ v1) g sK sP sQ v1 r ∧ Fr w (w1.setCell ⟨g, 3, none⟩ v1) g v v1 := by
 have hne : some g ≠ v.ownBlock := Kd.R_ne h.own h.blk (by decide)
 have hb1 := blk_grown h.blk hg hne
 have hne1 : some g ≠ v1.ownBlock := Kd.R_ne ho hb1 (by decide)
 refine ⟨hb1, ⟨below_set hb h.ge, h.ge, by simpa using blk_set hb1 3 v1, Kd.R_far (Kd.R_mono (ok' := fun k => k ≠ g) (Kd.R_types ho hb1 (by decide)) (fun k hk => hk.2)) (fun k hk => hk) v1 |> fun z => Kd.R_mono z (fun _ _ => trivial)⟩, ⟨?_, fun k hk hkg hkv => ?_, hat⟩⟩
 ·simpa using hg.size
 ·rw [Below.heap_setCell w1 ⟨g, 3, none⟩ v1 k hkg]
  exact hg.block k hk hkv
theorem WW.step {w0 w w1 : World} {g : Nat} {sK sP sQ v : Value} {out : List Int} (h : WW w0 w g sK sP sQ v out) (hb : Below w.heap.size w w1) : WW w0 w1 g sK sP sQ v out :=
 ⟨below_then h.below h.below.size hb, h.ge, (hb.block g h.lt).trans h.blk, Kd.R_below h.own hb⟩
theorem row_after {w w' : World} {g B : Nat} {v v' u : Value} {L : List Int} (h : Kd.R (Kd.int .i64) 3 w B (fun _ => True) u L) (hB : g < B) (hv : ∀ k, v.ownBlock = some k → k < B) (hF : Fr w w' g v v') :
  Kd.R (Kd.int .i64) 3 w' B (fun _ => True) u L :=
 Kd.R_mono (Kd.R_step (Kd.R_bound h) (fun k hk hlt => hF.block k hlt (by have := hk.2.1; omega) (fun e => by have := hv k e.symm; have := hk.2.1; omega))) (fun _ _ => trivial)
theorem flat_take {F : Int → List Int} {L : List Int} {i : Nat} (hi : i < L.length) : (L.take (i + 1)).flatMap F = (L.take i).flatMap F ++ F (rd L (i : Int)) := by
 rw [List.take_succ_eq_append_getElem hi, List.flatMap_append, List.flatMap_singleton, rd_nat, List.getD_eq_getElem?_getD, List.getElem?_eq_getElem hi]; rfl
theorem flat_le {F : Int → List Int} {L : List Int} (i : Nat) : ((L.take i).flatMap F).length ≤ (L.flatMap F).length := by
 have : (L.flatMap F).length = ((L.take i).flatMap F).length + ((L.drop i).flatMap F).length := by rw [← List.length_append, ← List.flatMap_append, List.take_append_drop]
 omega
end Go.Proofs.Ytnomeokicfpidaa.EW
namespace Go.Proofs.Ytnomeokicfpidaa.EW
open Go.RowKit Go.Proofs.YtnomeokicfpidaaW.PrintWords Go.Proofs.YtnomeokicfpidaaW.PrintLast Go.Proofs.YtnomeokicfpidaaW.PrintMore Go.Proofs.Ytnomeokicfpidaa.Q Go.Proofs.Ytnomeokicfpidaa.M
attribute [local go_sem] max2_int min2_int max_two min_two max_three min_three max_four min_four
set_option linter.unusedVariables false
set_option linter.unusedSimpArgs false
set_option maxHeartbeats 8000000 in
set_option maxRecDepth 100000 in
theorem in_leaf {w0 : World} {AK AP AQ : Option Addr} {cK cP cQ : Nat} {lK lP lQ : List Int} {g : Nat}
  (hK : Kd.C (Kd.int .i64) w0 AK lK.length lK) (hcK : lK.length ≤ cK) (hP : Kd.C (Kd.int .i64) w0 AP lP.length lP) (hcP : lP.length ≤ cP) (hn : lP.length = lK.length) (h24 : lK.length ≤ 24)
  (a : Int) (h0 : 0 ≤ a) (h1 : a < lK.length) (hs : rd lK a = 1) (w : World) (v : Value) (out : List Int)
  (hW : WW w0 w g (.slice AK lK.length cK) (.slice AP lP.length cP) (.slice AQ lQ.length cQ) v out) (hl : (out ++ [a]).length < 17592186044416) (hi : initial lK lP a = -1) :
  Calls Try.prog 52 #[.pointer (some ⟨g, 0, none⟩), .int .i64 a] w (Put w0 w g (.slice AK lK.length cK) (.slice AP lP.length cP) (.slice AQ lQ.length cQ) v (out ++ [a])) := by
 obtain ⟨k, hk⟩ := (Initial_f lK lP a hn (by omega)).rounds
 have hu24 := Try.underlying24
 have hu70 := Try.underlying70
 have hc0 : w.cell? ⟨g, 0, none⟩ = some (.slice AK lK.length cK) := (blk_cell hW.blk 0).trans rfl
 have hc1 : w.cell? ⟨g, 1, none⟩ = some (.slice AP lP.length cP) := (blk_cell hW.blk 1).trans rfl
 have hc3 : w.cell? ⟨g, 3, none⟩ = some v := (blk_cell hW.blk 3).trans rfl
 obtain ⟨ad, e, hx⟩ := Kd.at_int (Kd.C_below hK hW.below) a h0 (by omega)
 subst e
 have p0 := eq_true h0
 have p1 := eq_true h1
 have t1 : (rd lK a == 3) = false := by rw [hs]; rfl
 have t2 : (rd lK a == 4) = false := by rw [hs]; rfl
 have t3 : (rd lK a == 2) = false := by rw [hs]; rfl
 clear h0 h1 hs
 have HW := Aside0.mk hW
 clear hW
 have HK := Aside0.mk hk
 clear hk
 have HN := Aside0.mk hn
 clear hn
 obtain ⟨y, hy⟩ : ∃ y : List Int, y = out ++ [a] := ⟨_, rfl⟩
 have HI := Aside0.mk hi
 clear hi
 rw [List.length_append, List.length_singleton] at hl
 have HL := Aside0.mk hl
 clear hl
 rw [← hy]
 have HY := Aside0.mk hy
 clear hy
 go_enter Try.func52, Try.ntmps52
 go_wp2_with (first | ((with_reducible refine gate_builtin (b := .append) (xs := #[.tmp 68, .tmp 70]) rfl ?_); at_builtin; refine Kd.R_append (Kd.int .i64) (w0 := w0) w0.heap.size rfl (.tmp 68) (.tmp 70) 22 3 (.int .i64 0) 8 rfl Try.underlying22 infoI rfl (by decide) (by omega) v out a [.int .i64 a] (fun _ => True) (fun _ => False) rfl rfl ?aP (fun _ hk => hk.elim) ?aF ?aO ?aB ?aS ?aL ?_; (case aP => exact rfl); (case aB => exact HW.out.below); (case aF => exact (fun _ _ => trivial)); (case aO => exact HW.out.own); (case aS => exact HW.out.below.size); (case aL => have := HL.out; omega); intro v1 w1 ho hb hg hat; rw [← HY.out] at ho; obtain ⟨Av, cv, ev⟩ := Kd.R_slice ho; subst ev; obtain ⟨hb1, hW2, hF⟩ := HW.out.push ho hb hg hat; clear ho hb hg hat; have hc3' : w1.cell? ⟨g, 3, none⟩ = some v := (blk_cell hb1 3).trans rfl; have hf3' := blk_frozen hb1 3; clear hb1; have hd0 : (w1.setCell ⟨g, 3, none⟩ (.slice Av y.length cv)).cell? ⟨g, 0, none⟩ = some (.slice (some ad) lK.length cK) := (blk_cell hW2.blk 0).trans rfl; have hd1 : (w1.setCell ⟨g, 3, none⟩ (.slice Av y.length cv)).cell? ⟨g, 1, none⟩ = some (.slice AP lP.length cP) := (blk_cell hW2.blk 1).trans rfl; have HW2 := Aside0.mk hW2; clear hW2; have HF := Aside0.mk hF; clear hF) | (go_at_call 30; (with_reducible refine (shape_Initial.calls k _ _ lK _ _ lP a _ _ ?s1 ?s2 ?s3 ?s4 HK.out).mono ?_); (case s1 => exact Kd.C_below hK HW2.out.below); (case s2 => exact hcK); (case s3 => exact Kd.C_below hP HW2.out.below); (case s4 => exact hcP); rintro e w3 ⟨rfl, hb3⟩; rw [HI.out]; have HB3 := Aside0.mk hb3; clear hb3))
 go_end0
 exact ⟨rfl, _, HW2.out.step HB3.out, HF.out.trans (Fr.of_below HB3.out g _)⟩
set_option maxHeartbeats 8000000 in
set_option maxRecDepth 100000 in
theorem in_plain {w0 : World} {AK AP AQ : Option Addr} {cK cP cQ : Nat} {lK lP lQ : List Int} {g : Nat}
  (hK : Kd.C (Kd.int .i64) w0 AK lK.length lK) (hcK : lK.length ≤ cK) (hP : Kd.C (Kd.int .i64) w0 AP lP.length lP) (hcP : lP.length ≤ cP) (hn : lP.length = lK.length) (h24 : lK.length ≤ 24)
  (a : Int) (h0 : 0 ≤ a) (h1 : a < lK.length) (hs : rd lK a = 1) (w : World) (v : Value) (out : List Int)
  (hW : WW w0 w g (.slice AK lK.length cK) (.slice AP lP.length cP) (.slice AQ lQ.length cQ) v out) (x : Int) (hx0 : 0 ≤ x) (r : List Int) (hl : (out ++ [a]).length < 17592186044416) (hi : initial lK lP a = x)
  (IH : ∀ (w : World) (v : Value), WW w0 w g (.slice AK lK.length cK) (.slice AP lP.length cP) (.slice AQ lQ.length cQ) v (out ++ [a]) → Calls Try.prog 52 #[.pointer (some ⟨g, 0, none⟩), .int .i64 x] w (Put w0 w g (.slice AK lK.length cK) (.slice AP lP.length cP) (.slice AQ lQ.length cQ) v r)) :
  Calls Try.prog 52 #[.pointer (some ⟨g, 0, none⟩), .int .i64 a] w (Put w0 w g (.slice AK lK.length cK) (.slice AP lP.length cP) (.slice AQ lQ.length cQ) v (r)) := by
 obtain ⟨k, hk⟩ := (Initial_f lK lP a hn (by omega)).rounds
 have hu24 := Try.underlying24
 have hu70 := Try.underlying70
 have hc0 : w.cell? ⟨g, 0, none⟩ = some (.slice AK lK.length cK) := (blk_cell hW.blk 0).trans rfl
 have hc1 : w.cell? ⟨g, 1, none⟩ = some (.slice AP lP.length cP) := (blk_cell hW.blk 1).trans rfl
 have hc3 : w.cell? ⟨g, 3, none⟩ = some v := (blk_cell hW.blk 3).trans rfl
 obtain ⟨ad, e, hx⟩ := Kd.at_int (Kd.C_below hK hW.below) a h0 (by omega)
 subst e
 have p0 := eq_true h0
 have p1 := eq_true h1
 have t1 : (rd lK a == 3) = false := by rw [hs]; rfl
 have t2 : (rd lK a == 4) = false := by rw [hs]; rfl
 have t3 : (rd lK a == 2) = false := by rw [hs]; rfl
 clear h0 h1 hs
 have HW := Aside0.mk hW
 clear hW
 have HK := Aside0.mk hk
 clear hk
 have HN := Aside0.mk hn
 clear hn
 obtain ⟨y, hy⟩ : ∃ y : List Int, y = out ++ [a] := ⟨_, rfl⟩
 have HI := Aside0.mk hi
 clear hi
 rw [List.length_append, List.length_singleton] at hl
 have HL := Aside0.mk hl
 clear hl
 rw [← hy] at IH
 have HY := Aside0.mk hy
 clear hy
 have tx : decide (0 ≤ x) = true := decide_eq_true hx0
 clear hx0
 have HH := Aside0.mk IH
 clear IH
 go_enter Try.func52, Try.ntmps52
 go_wp2_with (first | ((with_reducible refine gate_builtin (b := .append) (xs := #[.tmp 68, .tmp 70]) rfl ?_); at_builtin; refine Kd.R_append (Kd.int .i64) (w0 := w0) w0.heap.size rfl (.tmp 68) (.tmp 70) 22 3 (.int .i64 0) 8 rfl Try.underlying22 infoI rfl (by decide) (by omega) v out a [.int .i64 a] (fun _ => True) (fun _ => False) rfl rfl ?aP (fun _ hk => hk.elim) ?aF ?aO ?aB ?aS ?aL ?_; (case aP => exact rfl); (case aB => exact HW.out.below); (case aF => exact (fun _ _ => trivial)); (case aO => exact HW.out.own); (case aS => exact HW.out.below.size); (case aL => have := HL.out; omega); intro v1 w1 ho hb hg hat; rw [← HY.out] at ho; obtain ⟨Av, cv, ev⟩ := Kd.R_slice ho; subst ev; obtain ⟨hb1, hW2, hF⟩ := HW.out.push ho hb hg hat; clear ho hb hg hat; have hc3' : w1.cell? ⟨g, 3, none⟩ = some v := (blk_cell hb1 3).trans rfl; have hf3' := blk_frozen hb1 3; clear hb1; have hd0 : (w1.setCell ⟨g, 3, none⟩ (.slice Av y.length cv)).cell? ⟨g, 0, none⟩ = some (.slice (some ad) lK.length cK) := (blk_cell hW2.blk 0).trans rfl; have hd1 : (w1.setCell ⟨g, 3, none⟩ (.slice Av y.length cv)).cell? ⟨g, 1, none⟩ = some (.slice AP lP.length cP) := (blk_cell hW2.blk 1).trans rfl; have HW2 := Aside0.mk hW2; clear hW2; have HF := Aside0.mk hF; clear hF) | (go_at_call 30; (with_reducible refine (shape_Initial.calls k _ _ lK _ _ lP a _ _ ?s1 ?s2 ?s3 ?s4 HK.out).mono ?_); (case s1 => exact Kd.C_below hK HW2.out.below); (case s2 => exact hcK); (case s3 => exact Kd.C_below hP HW2.out.below); (case s4 => exact hcP); rintro e w3 ⟨rfl, hb3⟩; rw [HI.out]; have HB3 := Aside0.mk hb3; clear hb3) | (go_at_call 52; (with_reducible refine (HH.out w3 _ (HW2.out.step HB3.out)).mono ?_); rintro e w4 ⟨rfl, v', hW4, hF4⟩))
 go_end0
 exact ⟨rfl, v', hW4, (HF.out.trans (Fr.of_below HB3.out g _)).trans hF4⟩
set_option maxHeartbeats 8000000 in
set_option maxRecDepth 100000 in
theorem in_all {w0 : World} {AK AP AQ : Option Addr} {cK cP cQ : Nat} {lK lP lQ : List Int} {g : Nat}
  (hK : Kd.C (Kd.int .i64) w0 AK lK.length lK) (hcK : lK.length ≤ cK) (hP : Kd.C (Kd.int .i64) w0 AP lP.length lP) (hcP : lP.length ≤ cP) (hn : lP.length = lK.length) (h24 : lK.length ≤ 24)
  (a : Int) (h0 : 0 ≤ a) (h1 : a < lK.length) (hs : rd lK a = 2) (w : World) (v : Value) (out : List Int)
  (hW : WW w0 w g (.slice AK lK.length cK) (.slice AP lP.length cP) (.slice AQ lQ.length cQ) v out) (F : Int → List Int) (hl : (out ++ [a] ++ (kids lP a).flatMap F).length < 17592186044416)
  (IH : ∀ x ∈ kids lP a, ∀ (w : World) (v : Value) (out : List Int), WW w0 w g (.slice AK lK.length cK) (.slice AP lP.length cP) (.slice AQ lQ.length cQ) v out → (out ++ F x).length < 17592186044416 → Calls Try.prog 52 #[.pointer (some ⟨g, 0, none⟩), .int .i64 x] w (Put w0 w g (.slice AK lK.length cK) (.slice AP lP.length cP) (.slice AQ lQ.length cQ) v (out ++ F x))) :
  Calls Try.prog 52 #[.pointer (some ⟨g, 0, none⟩), .int .i64 a] w (Put w0 w g (.slice AK lK.length cK) (.slice AP lP.length cP) (.slice AQ lQ.length cQ) v (out ++ [a] ++ (kids lP a).flatMap F)) := by
 obtain ⟨k, hk⟩ := (Kids_f lK lP a (by omega)).rounds
 have hu24 := Try.underlying24
 have hu70 := Try.underlying70
 have hc0 : w.cell? ⟨g, 0, none⟩ = some (.slice AK lK.length cK) := (blk_cell hW.blk 0).trans rfl
 have hc1 : w.cell? ⟨g, 1, none⟩ = some (.slice AP lP.length cP) := (blk_cell hW.blk 1).trans rfl
 have hc3 : w.cell? ⟨g, 3, none⟩ = some v := (blk_cell hW.blk 3).trans rfl
 obtain ⟨ad, e, hx⟩ := Kd.at_int (Kd.C_below hK hW.below) a h0 (by omega)
 subst e
 have p0 := eq_true h0
 have p1 := eq_true h1
 have t1 : (rd lK a == 3) = false := by rw [hs]; rfl
 have t2 : (rd lK a == 4) = false := by rw [hs]; rfl
 have t3 : (rd lK a == 2) = true := by rw [hs]; rfl
 clear h0 h1 hs
 have HW := Aside0.mk hW
 clear hW
 have HK := Aside0.mk hk
 clear hk
 have HN := Aside0.mk hn
 clear hn
 obtain ⟨y, hy⟩ : ∃ y : List Int, y = out ++ [a] := ⟨_, rfl⟩
 have hlen : y.length = out.length + 1 := by rw [hy, List.length_append, List.length_singleton]
 rw [← hy] at hl ⊢
 have hly : y.length + ((kids lP a).flatMap F).length < 17592186044416 := by rw [← List.length_append]; exact hl
 have HL := Aside0.mk (show out.length + 1 < 17592186044416 by omega)
 have HLY := Aside0.mk hly
 clear hl hly hlen
 have HY := Aside0.mk hy
 clear hy
 have HH := Aside0.mk IH
 clear IH
 have hkl := kids_len lP a
 obtain ⟨L, hL⟩ : ∃ L, L = kids lP a := ⟨_, rfl⟩
 rw [← hL] at hkl
 have HLL := Aside0.mk hL
 have hl24 : L.length ≤ 24 := by have := HN.out; omega
 clear hL hkl
 go_enter Try.func52, Try.ntmps52
 go_wp2_with (first | ((with_reducible refine gate_builtin (b := .append) (xs := #[.tmp 43, .tmp 45]) rfl ?_); at_builtin; refine Kd.R_append (Kd.int .i64) (w0 := w0) w0.heap.size rfl (.tmp 43) (.tmp 45) 22 3 (.int .i64 0) 8 rfl Try.underlying22 infoI rfl (by decide) (by omega) v out a [.int .i64 a] (fun _ => True) (fun _ => False) rfl rfl ?aP (fun _ hk => hk.elim) ?aF ?aO ?aB ?aS ?aL ?_; (case aP => exact rfl); (case aB => exact HW.out.below); (case aF => exact (fun _ _ => trivial)); (case aO => exact HW.out.own); (case aS => exact HW.out.below.size); (case aL => have := HL.out; omega); intro v1 w1 ho hb hg hat; rw [← HY.out] at ho; obtain ⟨Av, cv, ev⟩ := Kd.R_slice ho; subst ev; obtain ⟨hb1, hW2, hF⟩ := HW.out.push ho hb hg hat; clear ho hb hg hat; have hc3' : w1.cell? ⟨g, 3, none⟩ = some v := (blk_cell hb1 3).trans rfl; have hf3' := blk_frozen hb1 3; clear hb1; have hd0 : (w1.setCell ⟨g, 3, none⟩ (.slice Av y.length cv)).cell? ⟨g, 0, none⟩ = some (.slice (some ad) lK.length cK) := (blk_cell hW2.blk 0).trans rfl; have hd1 : (w1.setCell ⟨g, 3, none⟩ (.slice Av y.length cv)).cell? ⟨g, 1, none⟩ = some (.slice AP lP.length cP) := (blk_cell hW2.blk 1).trans rfl; have HW2 := Aside0.mk hW2; clear hW2; have HF := Aside0.mk hF; clear hF) | (go_at_call 25; (with_reducible refine (shape_Kids.calls k _ _ lK _ _ lP a _ _ ?s1 ?s2 ?s3 ?s4 HK.out).mono ?_); (case s1 => exact Kd.C_below hK HW2.out.below); (case s2 => exact hcK); (case s3 => exact Kd.C_below hP HW2.out.below); (case s4 => exact hcP); rintro e w3 ⟨vk, rfl, hok, hb3⟩; rw [← HLL.out] at hok; obtain ⟨Ak, ck, ek⟩ := Kd.R_slice hok; subst ek; have HOK := Aside0.mk hok; clear hok; have HB3 := Aside0.mk hb3; clear hb3))
 go_loopg [5, 56] L.length (fun kq v5 v56 w' => ∃ (xi : Int) (v' : Value), v56 = .int .i64 xi ∧ Aside0 (0 ≤ xi ∧ xi + kq = L.length) ∧ Aside0 (WW w0 w' g (.slice (some ad) lK.length cK) (.slice AP lP.length cP) (.slice AQ lQ.length cQ) v' (y ++ (L.take xi.toNat).flatMap F)) ∧ Aside0 (Fr w3 w' g (.slice Av y.length cv) v'))
 case atStart => exact ⟨0, _, rfl, ⟨by omega, by omega⟩, ⟨by simpa using HW2.out.step HB3.out⟩, ⟨Fr.refl _ _ _⟩⟩
 case round =>
  obtain ⟨xi, v', rfl, HX, HW3, HF3⟩ := hrel
  cases gk with
  | zero =>
   have c1 : decide (xi < (L.length : Int)) = false := decide_eq_false (by have := HX.out; omega)
   have hdone : y ++ (L.take xi.toNat).flatMap F = y ++ L.flatMap F := by rw [List.take_of_length_le (by have := HX.out; omega)]
   have HD := Aside0.mk hdone
   clear hdone
   go_wp2
   refine bodyPost_ret (v := .tuple #[]) (by simp [results, Try.results52, go_sem]) rfl ?_
   rw [← HLL.out, ← HD.out]
   exact ⟨rfl, v', HW3.out, (HF.out.trans (Fr.of_below HB3.out g _)).trans HF3.out⟩
  | succ k1 =>
   have c0 := eq_true HX.out.1
   have hlt : xi < (L.length : Int) := by have := HX.out; omega
   have c1 := eq_true hlt
   have c2 : decide (xi < (L.length : Int)) = true := decide_eq_true hlt
   have hr := row_after HOK.out HW2.out.lt (Kd.R_lt HW2.out.own) HF3.out
   obtain ⟨adk, ek, hxk⟩ := Kd.at_int (Kd.R_reads' hr).2.2 xi HX.out.1 (by omega)
   subst ek
   clear hr hlt
   have hmem : rd L xi ∈ kids lP a := by
    rw [← HLL.out]
    have := HX.out
    unfold rd
    rw [List.getD_eq_getElem?_getD, List.getElem?_eq_getElem (by omega)]; exact List.getElem_mem _
   have hft : (L.take (xi + 1).toNat).flatMap F = (L.take xi.toNat).flatMap F ++ F (rd L xi) := by
    have := HX.out
    rw [show (xi + 1).toNat = xi.toNat + 1 by omega, flat_take (by omega), show ((xi.toNat : Nat) : Int) = xi by omega]
   have hbd : (y ++ (L.take xi.toNat).flatMap F ++ F (rd L xi)).length < 17592186044416 := by
    rw [List.append_assoc, ← hft, List.length_append]
    have := flat_le (F := F) (L := L) (xi + 1).toNat
    have := HLY.out
    rw [← HLL.out] at this
    omega
   have HM := Aside0.mk hmem
   have HFT := Aside0.mk hft
   have HBD := Aside0.mk hbd
   clear hmem hft hbd
   have hw : wrap64 (xi + 1) = xi + 1 := by have := HX.out; exact w64 (by omega) (by omega)
   have HWR := Aside0.mk hw
   clear hw
   go_wp2_with (go_at_call 52; (with_reducible refine (HH.out _ HM.out _ _ _ HW3.out HBD.out).mono ?_); rintro e w4 ⟨rfl, v4, hW4, hF4⟩; have HW4 := Aside0.mk hW4; have HF4 := Aside0.mk hF4; clear hW4 hF4)
   go_roundg k1
   case measure => have := HX.out; omega
   case rel => exact ⟨wrap64 (xi + 1), v4, (by first | rfl | (simp; done) | (simp [*]; done)), ⟨by rw [HWR.out]; have := HX.out; omega⟩, ⟨by rw [HWR.out, HFT.out, ← List.append_assoc]; exact HW4.out⟩, ⟨HF3.out.trans HF4.out⟩⟩
theorem in_solid {w0 : World} {AK AP AQ : Option Addr} {cK cP cQ : Nat} {lK lP lQ : List Int} {g : Nat}
  (hK : Kd.C (Kd.int .i64) w0 AK lK.length lK) (hcK : lK.length ≤ cK) (hP : Kd.C (Kd.int .i64) w0 AP lP.length lP) (hcP : lP.length ≤ cP) (hO : Ok lK lP) :
  ∀ (f : Nat) (a : Int), 0 ≤ a → a < lK.length → (lK.length : Int) - a ≤ f → solidB (rd lK a) = true → ∀ (w : World) (v : Value) (out : List Int),
  WW w0 w g (.slice AK lK.length cK) (.slice AP lP.length cP) (.slice AQ lQ.length cQ) v out → (out ++ inS lK lP f a).length < 17592186044416 →
  Calls Try.prog 52 #[.pointer (some ⟨g, 0, none⟩), .int .i64 a] w (Put w0 w g (.slice AK lK.length cK) (.slice AP lP.length cP) (.slice AQ lQ.length cQ) v (out ++ inS lK lP f a)) := by
 have hn := hO.1
 have h24 := hO.2.2.2.2
 intro f
 induction f with
 | zero => intro a h0 h1 h2; omega
 | succ f ih =>
  intro a h0 h1 h2 hs w v out hW hl
  rw [inS] at hl ⊢
  rcases solidB_iff.1 hs with hk | hk
  ·rw [if_neg (by omega)] at hl ⊢
   rcases initial_cases lK lP a with hi | ⟨hi, hsi⟩
   ·rw [hi, if_neg (by omega)] at hl ⊢
    exact in_leaf hK hcK hP hcP hn h24 a h0 h1 hk w v out hW hl hi
   ·obtain ⟨x0, x1, x2, _⟩ := hO.kid hi
    rw [if_pos x0] at hl ⊢
    have e : out ++ a :: inS lK lP f (initial lK lP a) = (out ++ [a]) ++ inS lK lP f (initial lK lP a) := by simp
    rw [e] at hl ⊢
    exact in_plain hK hcK hP hcP hn h24 a h0 h1 hk w v out hW (initial lK lP a) x0 _ (by rw [List.length_append] at hl; omega) rfl
     (fun w v hW => ih (initial lK lP a) x0 x1 (by omega) hsi w v _ hW hl)
  ·rw [if_pos hk] at hl ⊢
   have e : out ++ a :: (kids lP a).flatMap (inS lK lP f) = (out ++ [a]) ++ (kids lP a).flatMap (inS lK lP f) := by simp
   rw [e] at hl ⊢
   refine in_all hK hcK hP hcP hn h24 a h0 h1 hk w v out hW (inS lK lP f) hl (fun x hx w v out hW hl => ?_)
   obtain ⟨x0, x1, x2, _, _, x3⟩ := hO.kid hx
   have := (x3 (by omega)).2
   refine ih x x0 x1 (by omega) ?_ w v out hW hl
   rcases this with h | h
   ·exact h
   ·omega
end Go.Proofs.Ytnomeokicfpidaa.EW
