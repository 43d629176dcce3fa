-- merged and slimmed by slim.py (a program of this repo)
import Derived.Deep.RegionHeld3
import Derived.Outline
import Derived.Test.YtnomeokicfpidaaKEnterBack8
import Derived.Test.YtnomeokicfpidaaKEnterBack0
import Derived.Test.YtnomeokicfpidaaKEnterBack6
import Derived.Test.YtnomeokicfpidaaKEnterBack4
import Derived.Test.YtnomeokicfpidaaKEnterBack5
import Derived.StillTailTactics
namespace Go.Proofs.Ytnomeokicfpidaa.EW
open Go.RowKit Go.Proofs.YtnomeokicfpidaaW.PrintWords Go.Proofs.YtnomeokicfpidaaW.PrintLast Go.Proofs.YtnomeokicfpidaaW.PrintMore Go.Proofs.Ytnomeokicfpidaa.Q Go.Proofs.Ytnomeokicfpidaa.M
attribute [local go_sem] max2_int min2_int max_two min_two max_three min_three max_four min_four
set_option linter.unusedVariables false
set_option linter.unusedSimpArgs false
def wasS (Q : List Int) (a : Int) : Int := if a < 0 then 0 else if a ≥ (Q.length : Int) then 0 else rd Q a
set_option maxHeartbeats 4000000 in
set_option maxRecDepth 100000 in
theorem was_calls {w0 : World} {sK sP : Value} {AQ : Option Addr} {cQ : Nat} {lQ : List Int} {g : Nat} (hQ : Kd.C (Kd.int .u32) w0 AQ lQ.length lQ) (hcQ : lQ.length ≤ cQ)
  (a : Int) (w : World) (v : Value) (out : List Int) (hW : WW w0 w g sK sP (.slice AQ lQ.length cQ) v out) :
  Calls Try.prog 60 #[.pointer (some ⟨g, 0, none⟩), .int .i64 a] w fun e w' => e = .returned (.int .u32 (wasS lQ a)) ∧ Drawn0 w w' := by
 have hu70 := Try.underlying70
 have hc2 : w.cell? ⟨g, 2, none⟩ = some (.slice AQ lQ.length cQ) := (blk_cell hW.blk 2).trans rfl
 have hb := hW.below
 clear hW
 have HQ := Aside0.mk hQ
 have HB := Aside0.mk hb
 clear hQ hb
 by_cases c1 : a < 0
 ·have e : wasS lQ a = 0 := by unfold wasS; rw [if_pos c1]
  rw [e]
  have t1 : decide (a < 0) = true := decide_eq_true c1
  clear c1 e
  go_enter Try.func60, Try.ntmps60
  go_wp2
  repeat (go_quiet (fail); try go_wp2)
  go_ret
  exact ⟨rfl, by repeat (first | exact Drawn0.refl _ | apply Drawn0.step)⟩
 ·by_cases c2 : a ≥ (lQ.length : Int)
  ·have e : wasS lQ a = 0 := by unfold wasS; rw [if_neg c1, if_pos c2]
   rw [e]
   have t1 : decide (a < 0) = false := decide_eq_false c1
   have t2 : decide ((lQ.length : Int) ≤ a) = true := decide_eq_true c2
   clear c1 c2 e
   go_enter Try.func60, Try.ntmps60
   go_wp2
   repeat (go_quiet (fail); try go_wp2)
   go_ret
   exact ⟨rfl, by repeat (first | exact Drawn0.refl _ | apply Drawn0.step)⟩
  ·have e : wasS lQ a = rd lQ a := by unfold wasS; rw [if_neg c1, if_neg c2]
   rw [e]
   have t1 : decide (a < 0) = false := decide_eq_false c1
   have t2 : decide ((lQ.length : Int) ≤ a) = false := decide_eq_false c2
   obtain ⟨ad, e', hx⟩ := Kd.at_int (Kd.C_below HQ.out HB.out) a (by omega) (by omega)
   subst e'
   have p0 := eq_true (show 0 ≤ a by omega)
   have p1 := eq_true (show a < (lQ.length : Int) by omega)
   clear c1 c2 e
   go_enter Try.func60, Try.ntmps60
   go_wp2
   repeat (go_quiet (fail); try go_wp2)
   go_ret
   exact ⟨rfl, by repeat (first | exact Drawn0.refl _ | apply Drawn0.step)⟩
def backR (K P : List Int) (F : Int → List Int) (l : List Int) (up : Int) (deep : Bool) : List Int :=
 if deep = true ∧ l ≠ [] then l else match l.find? (fun k => decide (rd P k = up) && decide (rd K k ≤ 2)) with
  | some k => F k
  | none => if 0 ≤ initial K P up then F (initial K P up) else []
theorem find_none {p : Int → Bool} {l : List Int} (h : ∀ j : Nat, j < l.length → p (l.getD j 0) = false) : l.find? p = none := by
 rw [List.find?_eq_none]
 intro x hx
 obtain ⟨j, hj, rfl⟩ := List.mem_iff_getElem.1 hx
 have := h j hj
 rw [List.getD_eq_getElem?_getD, List.getElem?_eq_getElem hj] at this
 simpa using this
theorem find_at {p : Int → Bool} : ∀ {l : List Int} {i : Nat}, i < l.length → p (l.getD i 0) = true → (∀ j : Nat, j < i → p (l.getD j 0) = false) → l.find? p = some (l.getD i 0)
 | [], i, hi, _, _ => by simp at hi
 | x :: l, 0, _, hp, _ => by
  have hp' : p x = true := hp
  rw [List.find?_cons, hp']; rfl
 | x :: l, i + 1, hi, hp, hpre => by
  have h0 : p x = false := hpre 0 (by omega)
  rw [List.find?_cons, h0]
  exact find_at (l := l) (i := i) (by simpa using hi) hp (fun j hj => hpre (j + 1) (by omega))
set_option maxHeartbeats 8000000 in
set_option maxRecDepth 100000 in
theorem back_calls {w0 : World} {AK AP AQ : Option Addr} {cK cP cQ : Nat} {lK lP lQ : List Int} {g : Nat}
    (hK : Kd.C (Kd.int .i64) w0 AK lK.length lK) (hcK : lK.length ≤ cK) (hP : Kd.C (Kd.int .i64) w0 AP lP.length lP) (hcP : lP.length ≤ cP) (hQ : Kd.C (Kd.int .u32) w0 AQ lQ.length lQ) (hcQ : lQ.length ≤ cQ)
    (hn : lP.length = lK.length) (h24 : lK.length ≤ 24) (up : Int) (deep : Bool) (l : List Int) (hlr : ∀ x ∈ l, 0 ≤ x ∧ x < lK.length) (hl24 : l.length ≤ 24) (hbel : ∃ k, enter_below.f k lK lP (wasS lQ up) up = some l)
    (F : Int → List Int) (w : World) (v : Value) (out : List Int)
    (hW : WW w0 w g (.slice AK lK.length cK) (.slice AP lP.length cP) (.slice AQ lQ.length cQ) v out) (hl : (out ++ backR lK lP F l up deep).length < 17592186044416)
    (IH : ∀ x : Int, 0 ≤ x → x < lK.length → (rd lK x ≤ 2) → ∀ (w : World) (v : Value), WW w0 w g (.slice AK lK.length cK) (.slice AP lP.length cP) (.slice AQ lQ.length cQ) v out → (out ++ F x).length < 17592186044416 → Calls Try.prog 52 #[.pointer (some ⟨g, 0, none⟩), .int .i64 x] w (Put w0 w g (.slice AK lK.length cK) (.slice AP lP.length cP) (.slice AQ lQ.length cQ) v (out ++ F x))) :
    Calls Try.prog 59 #[.pointer (some ⟨g, 0, none⟩), .int .i64 up, .bool deep] w (Put w0 w g (.slice AK lK.length cK) (.slice AP lP.length cP) (.slice AQ lQ.length cQ) v (out ++ backR lK lP F l up deep)) := by
  obtain ⟨kb, hkb⟩ := hbel
  have hu24 := Try.underlying24
  have hu70 := Try.underlying70
  have hc0 : w.cell? ⟨g, 0, none⟩ = some (.slice AK lK.length cK) := (blk_cell hW.blk 0).trans rfl
  have hc1 : w.cell? ⟨g, 1, none⟩ = some (.slice AP lP.length cP) := (blk_cell hW.blk 1).trans rfl
  have HKB := Aside0.mk hkb
  clear hkb
  have HN := Aside0.mk hn
  clear hn
  have hWd := hW.step (below_drew (Below.refl w.heap.size w))
  have hFd := Fr.of_below (below_drew (Below.refl w.heap.size w)) g v
  go_enter Try.func59, Try.ntmps59
  go_wp2
  go_region_held3 (fun w' => w'.cell? ⟨g, 0, none⟩ = some (.slice AK lK.length cK) ∧ w'.cell? ⟨g, 1, none⟩ = some (.slice AP lP.length cP) ∧ WW w0 w' g (.slice AK lK.length cK) (.slice AP lP.length cP) (.slice AQ lQ.length cQ) v out ∧ Fr w w' g v v)
    (first | exact ⟨(blk_cell hWn.blk 0).trans rfl, (blk_cell hWn.blk 1).trans rfl, hWn, hFn⟩ | exact ⟨by assumption, by assumption, by assumption, by assumption⟩)
    (first
      | (go_at_call 60; (with_reducible refine (was_calls (sK := .slice AK lK.length cK) (sP := .slice AP lP.length cP) hQ hcQ up _ v out ?w1).mono ?_); (case w1 => assumption); rintro e w5 ⟨rfl, hd⟩; have hWn := WW.step (by assumption) hd.below; have hFn := Fr.trans (by assumption) (Fr.of_below hd.below g v); clear hd)
      | (go_at_call 49; (with_reducible refine (enter_below.calls kb _ _ lK _ _ lP (wasS lQ up) up l _ ?b1 ?b2 ?b3 ?b4 HKB.out).mono ?_); (case b1 => exact Kd.C_below hK (WW.below (by assumption))); (case b2 => exact hcK); (case b3 => exact Kd.C_below hP (WW.below (by assumption))); (case b4 => exact hcP); rintro e w6 ⟨vl, rfl, hol, hbl⟩; have hWn := WW.step (by assumption) hbl; have hFn := Fr.trans (by assumption) (Fr.of_below hbl g v)))
  obtain ⟨Al, cl, el⟩ := Kd.R_slice hol
  subst el
  have HOL := Aside0.mk hol
  have HWN := Aside0.mk hWn
  have HFN := Aside0.mk hFn
  clear hol hWn hFn
  have HC0 := (show w6.cell? ⟨g, 0, none⟩ = some (.slice AK lK.length cK) from (blk_cell HWN.out.blk 0).trans rfl)
  have HC1 := (show w6.cell? ⟨g, 1, none⟩ = some (.slice AP lP.length cP) from (blk_cell HWN.out.blk 1).trans rfl)
  have HC3 := (show w6.cell? ⟨g, 3, none⟩ = some v from (blk_cell HWN.out.blk 3).trans rfl)
  by_cases hA : deep = true ∧ l ≠ []
  · obtain ⟨hd1, hd2⟩ := hA
    subst hd1
    have hb : backR lK lP F l up true = l := by unfold backR; rw [if_pos ⟨rfl, hd2⟩]
    rw [hb] at hl ⊢
    rw [List.length_append] at hl
    have HL := Aside0.mk hl
    obtain ⟨y, hy⟩ : ∃ y : List Int, y = out ++ l := ⟨_, rfl⟩
    rw [← hy]
    have HY := Aside0.mk hy
    have hpos : 0 < l.length := List.length_pos_iff.2 hd2
    have t1 : decide (0 < (l.length : Int)) = true := decide_eq_true (by omega)
    have t2 : decide (0 < l.length) = true := decide_eq_true hpos
    have HBK := Aside0.mk hb
    clear hl hy hb hd2 hpos IH
    go_wp2_with (first | ((with_reducible refine gate_builtin (b := .append) (xs := #[.tmp 29, .tmp 30]) rfl ?_); at_builtin; refine Kd.R_append_rows (Kd.int .i64) (w0 := w0) w0.heap.size rfl (.tmp 29) (.tmp 30) 22 3 (.int .i64 0) 8 rfl Try.underlying22 infoI rfl (by decide) (by omega) v out l _ _ _ (fun _ => True) (fun _ => False) rfl rfl ?aO ?aR (fun _ _ h => h) (fun _ h => h.elim) ?aF ?aB ?aS ?aL ?_; (case aO => exact HWN.out.own); (case aR => exact (Kd.R_reads' HOL.out).2.2); (case aF => exact (fun _ _ => trivial)); (case aB => exact HWN.out.below); (case aS => exact HWN.out.below.size); (case aL => have := HL.out; omega); intro v1 w1 ho hb hg hat; rw [← HY.out] at ho; obtain ⟨Av, cv, ev⟩ := Kd.R_slice ho; subst ev; obtain ⟨hb1, hW2, hF⟩ := HWN.out.push ho hb hg hat; clear ho hb hg hat; have hc3' : w1.cell? ⟨g, 3, none⟩ = some v := (blk_cell hb1 3).trans rfl; have hf3' := blk_frozen hb1 3; clear hb1; have HW2 := Aside0.mk hW2; clear hW2; have HF := Aside0.mk hF; clear hF))
    refine bodyPost_ret (v := .tuple #[]) (by simp [results, Try.results59, go_sem]) rfl ?_
    rw [HBK.out, ← HY.out]
    exact ⟨rfl, _, HW2.out, HFN.out.trans HF.out⟩
  · obtain ⟨p, hp⟩ : ∃ p : Int → Bool, p = fun k => decide (rd lP k = up) && decide (rd lK k ≤ 2) := ⟨_, rfl⟩
    have hb : backR lK lP F l up deep = match l.find? p with
      | some k => F k
      | none => if 0 ≤ initial lK lP up then F (initial lK lP up) else [] := by unfold backR; rw [if_neg hA, hp]
    have HBK := Aside0.mk hb
    have HPP := Aside0.mk hp
    have HL := Aside0.mk hl
    have HH := Aside0.mk IH
    have HLR := Aside0.mk hlr
    clear hb hp hl IH hlr
    have hor : deep = false ∨ l = [] := by
      cases deep with
      | false => exact .inl rfl
      | true => exact .inr (Classical.byContradiction fun h => hA ⟨rfl, h⟩)
    obtain ⟨kI, hkI⟩ := (Initial_f lK lP up HN.out (by have := HN.out; omega)).rounds
    have HKI := Aside0.mk hkI
    clear hkI hA
    obtain ⟨b0, hb0⟩ : ∃ b0 : Bool, decide (0 < l.length) = b0 := ⟨_, rfl⟩
    have hb0' : decide (0 < (l.length : Int)) = b0 := by rw [← hb0]; congr 1; exact propext (by omega)
    have hbf : b0 = false ∨ deep = false := by
      rcases hor with h | h
      · exact .inr h
      · left; rw [← hb0, h]; rfl
    clear hor
    have fin : ∀ (W : World), W = w6 → p = p → True := fun _ _ _ => trivial
    clear fin
    obtain ⟨b1, hb1⟩ : ∃ b1 : Bool, b1 = false ∧ (b0 = false ∨ (b0 = true ∧ deep = false)) := ⟨false, rfl, by cases b0 <;> simp_all⟩
    rcases hb1.2 with hz | ⟨hz, hz'⟩
    all_goals
      first | subst hz' | skip
      subst hz
      clear hb1 hbf
      go_wp2
      go_loopg [8, 36] l.length (fun kq v8 v36 w' => ∃ (xi : Int), v36 = .int .i64 xi ∧ Aside0 (w' = w6 ∧ 0 ≤ xi ∧ xi + kq = l.length ∧ ∀ j : Nat, j < xi.toNat → p (l.getD j 0) = false))
      case atStart => exact ⟨0, rfl, ⟨rfl, by omega, by omega, fun j hj => by simp at hj⟩⟩
      case round =>
        obtain ⟨xi, rfl, HX⟩ := hrel
        obtain ⟨ew, hx0, hxk, hpre⟩ := HX.out
        subst ew
        have HPRE := Aside0.mk hpre
        clear hpre HX
        cases gk with
        | zero =>
          have c1 : decide (xi < (l.length : Int)) = false := decide_eq_false (by omega)
          have hnone : l.find? p = none := find_none (fun j hj => HPRE.out j (by omega))
          obtain ⟨x, hx⟩ : ∃ x, initial lK lP up = x := ⟨_, rfl⟩
          have hbx := HBK.out
          rw [hnone] at hbx
          simp only [hx] at hbx
          have HI := Aside0.mk hx
          clear hnone hx0 hxk
          by_cases hxp : 0 ≤ x
          · rw [if_pos hxp] at hbx
            have HBX := Aside0.mk hbx
            have tx : decide (0 ≤ x) = true := decide_eq_true hxp
            have hsol : 0 ≤ x ∧ x < lK.length ∧ rd lK x ≤ 2 := by
              rcases initial_cases lK lP up with h | ⟨h, h'⟩
              · rw [HI.out] at h; omega
              · rw [HI.out] at h h'
                have := kids_in HN.out up x h
                have := solidB_iff.1 h'
                exact ⟨by omega, by omega, by omega⟩
            have HS := Aside0.mk hsol
            have hlx : (out ++ F x).length < 17592186044416 := by rw [← hbx]; exact HL.out
            have HLX := Aside0.mk hlx
            clear hbx hx hxp hsol hlx
            go_wp2_with (first | (go_at_call 30; (with_reducible refine (shape_Initial.calls kI _ _ lK _ _ lP up _ _ ?s1 ?s2 ?s3 ?s4 HKI.out).mono ?_); (case s1 => exact Kd.C_below hK HWN.out.below); (case s2 => exact hcK); (case s3 => exact Kd.C_below hP HWN.out.below); (case s4 => exact hcP); rintro e w3 ⟨rfl, hb3⟩; rw [HI.out]; have HB3 := Aside0.mk hb3; clear hb3) | (go_at_call 52; (with_reducible refine (HH.out x HS.out.1 HS.out.2.1 HS.out.2.2 w3 _ (HWN.out.step HB3.out) HLX.out).mono ?_); rintro e w4 ⟨rfl, v', hW4, hF4⟩))
            go_end0
            rw [HBX.out]
            exact ⟨rfl, v', hW4, (HFN.out.trans (Fr.of_below HB3.out g _)).trans hF4⟩
          · rw [if_neg hxp] at hbx
            have HBX := Aside0.mk hbx
            have tx : decide (0 ≤ x) = false := decide_eq_false hxp
            clear hbx hx hxp
            go_wp2_with (first | (go_at_call 30; (with_reducible refine (shape_Initial.calls kI _ _ lK _ _ lP up _ _ ?s1 ?s2 ?s3 ?s4 HKI.out).mono ?_); (case s1 => exact Kd.C_below hK HWN.out.below); (case s2 => exact hcK); (case s3 => exact Kd.C_below hP HWN.out.below); (case s4 => exact hcP); rintro e w3 ⟨rfl, hb3⟩; rw [HI.out]; have HB3 := Aside0.mk hb3; clear hb3))
            go_end0
            rw [HBX.out, List.append_nil]
            exact ⟨rfl, v, HWN.out.step HB3.out, HFN.out.trans (Fr.of_below HB3.out g _)⟩
        | succ k1 =>
          have hlt : xi < (l.length : Int) := by omega
          have c2 : decide (xi < (l.length : Int)) = true := decide_eq_true hlt
          have c0 := eq_true hx0
          have c1 := eq_true hlt
          obtain ⟨adl, el, hxl⟩ := Kd.at_int (Kd.R_reads' HOL.out).2.2 xi hx0 (by omega)
          subst el
          have hget : rd l xi = l.getD xi.toNat 0 := rfl
          have hmem : rd l xi ∈ l := by
            rw [hget, List.getD_eq_getElem?_getD, List.getElem?_eq_getElem (by omega)]; exact List.getElem_mem _
          obtain ⟨x, hx⟩ : ∃ x, rd l xi = x := ⟨_, rfl⟩
          rw [hx] at hxl hmem hget
          obtain ⟨r0, r1⟩ := HLR.out x hmem
          obtain ⟨adK, eK, hxK⟩ := Kd.at_int (Kd.C_below hK HWN.out.below) x r0 (by omega)
          obtain ⟨adP, eP, hxP⟩ := Kd.at_int (Kd.C_below hP HWN.out.below) x r0 (by have := HN.out; omega)
          subst eK
          subst eP
          have q0 := eq_true r0
          have q1 := eq_true r1
          have q2 := eq_true (show x < (lP.length : Int) by have := HN.out; omega)
          have HX := Aside0.mk hx
          have HG := Aside0.mk hget
          have HR := Aside0.mk (And.intro r0 r1)
          have HXK := Aside0.mk (And.intro hx0 hxk)
          clear hx hget hmem hlt r0 r1 hx0 hxk
          have hw : wrap64 (xi + 1) = xi + 1 := by have := HXK.out; exact w64 (by omega) (by omega)
          have HWR := Aside0.mk hw
          clear hw
          by_cases hpx : p x = true
          · have hpp := hpx
            rw [HPP.out] at hpp
            simp only [Bool.and_eq_true, decide_eq_true_eq] at hpp
            have tP : (rd lP x == up) = true := beq_iff_eq.mpr hpp.1
            have tK : decide (rd lK x ≤ 2) = true := decide_eq_true hpp.2
            have hfind : l.find? p = some x := by
              have := HXK.out
              rw [HG.out]
              exact find_at (by omega) (by rw [← HG.out]; exact hpx) HPRE.out
            have hbx := HBK.out
            rw [hfind] at hbx
            have HBX := Aside0.mk hbx
            have hlx : (out ++ F x).length < 17592186044416 := by have := HL.out; rw [HBK.out, hfind] at this; exact this
            have HLX := Aside0.mk hlx
            have HS := Aside0.mk hpp.2
            clear hpp hpx hfind hbx hlx
            go_wp2_with (first | (go_at_call 52; (with_reducible refine (HH.out x HR.out.1 HR.out.2 HS.out _ _ HWN.out HLX.out).mono ?_); rintro e w4 ⟨rfl, v', hW4, hF4⟩))
            refine bodyPost_ret (v := .tuple #[]) (by simp [results, Try.results59, go_sem]) rfl ?_
            rw [HBX.out]
            exact ⟨rfl, v', hW4, HFN.out.trans hF4⟩
          · have hpf := eq_false_of_ne_true hpx
            have hnext : ∀ j : Nat, j < (xi + 1).toNat → p (l.getD j 0) = false := by
              intro j hj
              have := HXK.out
              by_cases e : j = xi.toNat
              · rw [e, ← HG.out]; exact hpf
              · exact HPRE.out j (by omega)
            have HNX := Aside0.mk hnext
            have hpp := hpf
            rw [HPP.out] at hpp
            simp only [Bool.and_eq_false_iff, decide_eq_false_iff_not] at hpp
            clear hpx hpf hnext
            by_cases hP1 : rd lP x = up
            · have tP : (rd lP x == up) = true := beq_iff_eq.mpr hP1
              have tK : decide (rd lK x ≤ 2) = false := decide_eq_false (by rcases hpp with h | h; · exact absurd hP1 h
                                                                            · exact h)
              clear hpp hP1
              go_wp2
              go_roundg k1
              case measure => have := HXK.out; omega
              case rel => exact ⟨wrap64 (xi + 1), (by first | rfl | (simp; done) | (simp [*]; done)), ⟨rfl, by rw [HWR.out]; have := HXK.out; omega, by rw [HWR.out]; have := HXK.out; omega, by rw [HWR.out]; exact HNX.out⟩⟩
            · have tP : (rd lP x == up) = false := beq_eq_false_iff_ne.mpr hP1
              clear hpp hP1
              go_wp2
              go_roundg k1
              case measure => have := HXK.out; omega
              case rel => exact ⟨wrap64 (xi + 1), (by first | rfl | (simp; done) | (simp [*]; done)), ⟨rfl, by rw [HWR.out]; have := HXK.out; omega, by rw [HWR.out]; have := HXK.out; omega, by rw [HWR.out]; exact HNX.out⟩⟩
end Go.Proofs.Ytnomeokicfpidaa.EW
namespace Go.Proofs.Ytnomeokicfpidaa.M
open Go.RowKit Go.Proofs.YtnomeokicfpidaaW.PrintWords Go.Proofs.YtnomeokicfpidaaW.PrintLast Go.Proofs.YtnomeokicfpidaaW.PrintMore
set_option linter.unusedVariables false
def Tree (P : List Int) : Prop := ∀ j : Nat, j < P.length → -1 ≤ P.getD j 0 ∧ P.getD j 0 < j
theorem Tree.rdP {P : List Int} (h : Tree P) {a : Int} (h0 : 0 ≤ a) (h1 : a < P.length) : -1 ≤ rd P a ∧ rd P a < a := by
 have := h a.toNat (by omega)
 unfold rd; omega
inductive Un (P : List Int) : Int → Int → Prop
 | refl (a : Int) : Un P a a
 | up {a b : Int} (h0 : 0 ≤ a) (h1 : a < P.length) (h : Un P (rd P a) b) : Un P a b
theorem Un.le {P : List Int} (hT : Tree P) {a b : Int} (h : Un P a b) : b ≤ a := by
 induction h with
 | refl => exact Int.le_refl _
 | up h0 h1 _ ih => have := hT.rdP h0 h1; omega
theorem Un.trans {P : List Int} {a b c : Int} (h : Un P a b) (k : Un P b c) : Un P a c := by
 induction h with
 | refl => exact k
 | up h0 h1 _ ih => exact .up h0 h1 (ih k)
theorem Un.cases' {P : List Int} {a b : Int} (h : Un P a b) (hne : a ≠ b) : 0 ≤ a ∧ a < P.length ∧ Un P (rd P a) b := by
 cases h with
 | refl => exact absurd rfl hne
 | up h0 h1 h => exact ⟨h0, h1, h⟩
theorem Un.lt {P : List Int} (hT : Tree P) {a b : Int} (h : Un P a b) (hne : a ≠ b) : b < a := by
 obtain ⟨h0, h1, h2⟩ := h.cases' hne
 have := h2.le hT
 have := hT.rdP h0 h1; omega
theorem Un.lin {P : List Int} {a b c : Int} (h : Un P a b) (k : Un P a c) : Un P b c ∨ Un P c b := by
 induction h with
 | refl => exact .inl k
 | @up a b h0 h1 h ih =>
  by_cases e : a = c
  ·subst e; exact .inr (.up h0 h1 h)
  ·exact ih (k.cases' e).2.2
theorem Un.kid {P : List Int} {a b : Int} (h : Un P a b) (hne : a ≠ b) : ∃ k : Nat, k < P.length ∧ P.getD k 0 = b ∧ Un P a (k : Int) := by
 induction h with
 | refl => exact absurd rfl hne
 | @up a b h0 h1 h ih =>
  by_cases e : rd P a = b
  ·exact ⟨a.toNat, by omega, e, by rw [show ((a.toNat : Nat) : Int) = a by omega]; exact .refl _⟩
  ·obtain ⟨k, x, y, z⟩ := ih e
   exact ⟨k, x, y, .up h0 h1 z⟩
theorem Un.sib {P : List Int} (hT : Tree P) {a p : Int} {k m : Nat} (hk : k < P.length) (hm : m < P.length) (ek : P.getD k 0 = p) (em : P.getD m 0 = p) (h : Un P a (k : Int)) (h' : Un P a (m : Int)) : k = m := by
 have key : ∀ {x y : Nat}, x < P.length → y < P.length → P.getD x 0 = p → P.getD y 0 = p → Un P (x : Int) (y : Int) → x = y := by
  intro x y hx hy ex ey h
  by_cases e : (x : Int) = (y : Int)
  ·omega
  ·obtain ⟨_, _, h2⟩ := h.cases' e
   rw [rd_nat, ex] at h2
   have := h2.le hT
   have := hT y hy
   omega
 rcases h.lin h' with h | h
 ·exact key hk hm ek em h
 ·exact (key hm hk em ek h).symm
theorem Un.top {P : List Int} (hT : Tree P) : ∀ (n : Nat) (a : Int), a < n → -1 ≤ a → a < P.length → Un P a (-1) := by
 intro n
 induction n with
 | zero =>
  intro a h1 h2 h3
  obtain rfl : a = -1 := by omega
  exact .refl _
 | succ n ih =>
  intro a h1 h2 h3
  by_cases e : a = -1
  ·subst e; exact .refl _
  ·have := hT.rdP (a := a) (by omega) h3
   exact .up (by omega) h3 (ih _ (by omega) this.1 (by omega))
theorem Un.par {P : List Int} {k : Nat} (hk : k < P.length) : Un P (k : Int) (P.getD k 0) := .up (by omega) (by omega) (by rw [rd_nat]; exact .refl _)
end Go.Proofs.Ytnomeokicfpidaa.M
namespace Go.Proofs.Ytnomeokicfpidaa.M
open Go.RowKit Go.Proofs.YtnomeokicfpidaaW.PrintWords Go.Proofs.YtnomeokicfpidaaW.PrintLast Go.Proofs.YtnomeokicfpidaaW.PrintMore Go.Proofs.Ytnomeokicfpidaa.Q
set_option linter.unusedVariables false
def unF (P : List Int) : Nat → Int → Int → Bool
 | 0, a, b => a == b
 | f + 1, a, b => if a = b then true else if 0 ≤ a ∧ a < P.length then unF P f (rd P a) b else false
def unB (P : List Int) (a b : Int) : Bool := unF P (P.length + 1) a b
theorem unF_iff {P : List Int} (hT : Tree P) : ∀ (f : Nat) (a b : Int), -1 ≤ a → a < f → a < P.length → (unF P f a b = true ↔ Un P a b) := by
 intro f
 induction f with
 | zero =>
  intro a b h0 h1 h2
  obtain rfl : a = -1 := by omega
  rw [unF, beq_iff_eq]
  constructor
  ·rintro rfl; exact .refl _
  ·intro h
   exact Classical.byContradiction fun e => by have := (h.cases' e).1; omega
 | succ f ih =>
  intro a b h0 h1 h2
  rw [unF]
  by_cases e : a = b
  ·rw [if_pos e]; subst e; exact ⟨fun _ => .refl _, fun _ => rfl⟩
  ·rw [if_neg e]
   by_cases g : 0 ≤ a ∧ a < P.length
   ·have := hT.rdP g.1 g.2
    rw [if_pos g, ih (rd P a) b (by omega) (by omega) (by omega)]
    exact ⟨fun h => .up g.1 g.2 h, fun h => (h.cases' e).2.2⟩
   ·rw [if_neg g]
    exact ⟨fun h => absurd h (by simp), fun h => absurd ⟨(h.cases' e).1, (h.cases' e).2.1⟩ g⟩
theorem unB_iff {P : List Int} (hT : Tree P) {a b : Int} (h0 : -1 ≤ a) (h1 : a < P.length) : unB P a b = true ↔ Un P a b := unF_iff hT _ a b h0 (by omega) h1
theorem unB_step {P : List Int} (hT : Tree P) {a b : Int} (h0 : 0 ≤ a) (h1 : a < P.length) (hne : a ≠ b) : unB P a b = unB P (rd P a) b := by
 have := hT.rdP h0 h1
 rw [Bool.eq_iff_iff, unB_iff hT (by omega) h1, unB_iff hT (by omega) (by omega)]
 exact ⟨fun h => (h.cases' hne).2.2, fun h => .up h0 h1 h⟩
theorem unB_stop {P : List Int} (hT : Tree P) {a b : Int} (h0 : -1 ≤ a) (h1 : a < P.length) (h : a ≤ b) : unB P a b = (a == b) := by
 rw [Bool.eq_iff_iff, unB_iff hT h0 h1, beq_iff_eq]
 constructor
 ·intro k; have := k.le hT; omega
 ·rintro rfl; exact .refl _
theorem Ok.tree {K P : List Int} (h : Ok K P) : Tree P := fun j hj => by
 obtain ⟨_, _, b1, b2, _⟩ := okS_iff.1 (h.2.2.1 j (by have := h.1; omega))
 exact ⟨b1, b2⟩
theorem Under_l0 {K P : List Int} (hT : Tree P) (b : Int) (hb : -1 ≤ b) : ∀ (d : Nat) (a : Int), -1 ≤ a → a < P.length → a < d → Ev (fun k => shape_Under.l0 k a b K P) (unB P a b) := by
 intro d
 induction d with
 | zero =>
  intro a h0 h1 h2
  refine Ev.ret (fun k => ?_)
  simp only [shape_Under.l0]
  rw [if_neg (by omega), unB_stop hT h0 h1 (by omega)]
 | succ d ih =>
  intro a h0 h1 h2
  by_cases g : a > b
  ·have := hT.rdP (a := a) (by omega) h1
   rw [unB_step hT (by omega) h1 (by omega)]
   refine Ev.st (ih (rd P a) (by omega) (by omega) (by omega)) (fun k => ?_)
   simp only [shape_Under.l0]
   rw [if_pos g, if_pos (by omega), if_pos h1]
  ·refine Ev.ret (fun k => ?_)
   simp only [shape_Under.l0]
   rw [if_neg g, unB_stop hT h0 h1 (by omega)]
theorem Under_f {K P : List Int} (hn : P.length = K.length) (hT : Tree P) {a b : Int} (h0 : 0 ≤ a) (h1 : a < K.length) (b0 : -1 ≤ b) (b1 : b < K.length) : Ev (fun k => shape_Under.f k K P a b) (unB P a b) := by
 have l0 := Under_l0 (K := K) hT b b0 (K.length) a (by omega) (by omega) (by omega)
 have hj : Ev (fun k => shape_Under.j0 k a b false K P) (unB P a b) := by
  refine Ev.st l0 (fun k => ?_)
  simp only [shape_Under.j0]; rw [if_neg (by simp)]
 refine Ev.cg hj (fun k => ?_)
 unfold shape_Under.f shape_Shape_is.f
 rw [if_pos h0, Option.bind_some, if_pos (by simpa using h1)]
 by_cases e : b = -1
 ·rw [if_pos e]
 ·rw [if_neg e, if_pos (by omega), Option.bind_some, decide_eq_true b1]; rfl
theorem rUnder_l0 {K P : List Int} (hT : Tree P) (b : Int) (hb : -1 ≤ b) : ∀ (d : Nat) (a : Int), -1 ≤ a → a < P.length → a < d → Ev (fun k => imprimaturref06_Shape_Under.l0 k a b K P) (unB P a b) := by
 intro d
 induction d with
 | zero =>
  intro a h0 h1 h2
  refine Ev.ret (fun k => ?_)
  simp only [imprimaturref06_Shape_Under.l0]
  rw [if_neg (by omega), unB_stop hT h0 h1 (by omega)]
 | succ d ih =>
  intro a h0 h1 h2
  by_cases g : a ≥ 0
  ·have := hT.rdP (a := a) (by omega) h1
   by_cases e : a = b
   ·refine Ev.ret (fun k => ?_)
    simp only [imprimaturref06_Shape_Under.l0]
    rw [if_pos g, if_pos e, unB_stop hT h0 h1 (by omega)]
   ·rw [unB_step hT (by omega) h1 e]
    refine Ev.st (ih (rd P a) (by omega) (by omega) (by omega)) (fun k => ?_)
    simp only [imprimaturref06_Shape_Under.l0]
    rw [if_pos g, if_neg e, if_pos (by omega), if_pos h1]
  ·refine Ev.ret (fun k => ?_)
   simp only [imprimaturref06_Shape_Under.l0]
   rw [if_neg g, unB_stop hT h0 h1 (by omega)]
theorem rUnder_f {K P : List Int} (hn : P.length = K.length) (hT : Tree P) {a b : Int} (h0 : 0 ≤ a) (h1 : a < K.length) (b0 : -1 ≤ b) (b1 : b < K.length) : Ev (fun k => imprimaturref06_Shape_Under.f k K P a b) (unB P a b) := by
 have l0 := rUnder_l0 (K := K) hT b b0 (K.length) a (by omega) (by omega) (by omega)
 have hj : Ev (fun k => imprimaturref06_Shape_Under.j0 k a b false K P) (unB P a b) := by
  refine Ev.st l0 (fun k => ?_)
  simp only [imprimaturref06_Shape_Under.j0]; rw [if_neg (by simp)]
 refine Ev.cg hj (fun k => ?_)
 unfold imprimaturref06_Shape_Under.f imprimaturref06_Shape_in.f
 rw [if_pos h0, Option.bind_some, if_pos (by simpa using h1), if_neg (by omega), decide_eq_false (by omega)]
def inB (s : Int) (i : Int) : Bool := (Go.bits .and .u32 (shr .u32 s i) 1) == 1
def belowFrom (P : List Int) (s a : Int) (i d : Nat) : List Int := ((List.range' i d).filter (fun j : Nat => decide (¬ (j : Int) = a) && (inB s (j : Int) && unB P (j : Int) a))).map (fun j : Nat => (j : Int))
def belowL (K P : List Int) (s a : Int) : List Int := belowFrom P s a 0 K.length
theorem belowFrom_succ (P : List Int) (s a : Int) (i d : Nat) : belowFrom P s a i (d + 1) = if (i : Int) ≠ a ∧ inB s i = true ∧ unB P i a = true then (i : Int) :: belowFrom P s a (i + 1) d else belowFrom P s a (i + 1) d := by
 unfold belowFrom
 rw [List.range'_succ, List.filter_cons]
 by_cases h : (i : Int) ≠ a ∧ inB s i = true ∧ unB P i a = true
 ·rw [if_pos h, if_pos (by simp [h.1, h.2.1, h.2.2])]; rfl
 ·rw [if_neg h, if_neg (by simpa using h)]
theorem below_l0 {K P : List Int} (hn : P.length = K.length) (hT : Tree P) (h24 : K.length < 1000000) (s a : Int) (a0 : -1 ≤ a) (a1 : a < K.length) : ∀ (d i : Nat) (acc : List Int), i + d = K.length → acc.length ≤ i →
  Ev (fun k => enter_below.l0 k s a acc (K.length : Int) (i : Int) K P) (acc ++ belowFrom P s a i d) := by
 intro d
 induction d with
 | zero =>
  intro i acc hi ha
  refine Ev.ret (fun k => ?_)
  simp only [enter_below.l0]
  rw [if_neg (by omega)]
  simp [belowFrom]
 | succ d ih =>
  intro i acc hi ha
  rw [belowFrom_succ]
  have hw := w1 i (by omega)
  by_cases e : (i : Int) = a
  ·rw [if_neg (by simp [e])]
   refine Ev.st (ih (i + 1) acc (by omega) (by omega)) (fun k => ?_)
   simp only [enter_below.l0]
   rw [if_pos (by omega), if_pos e, hw]
  ·have hin : enter_in.f s (i : Int) = some (inB s i) := by
    unfold enter_in.f inB; rw [if_pos (by omega), if_pos (by omega)]
   by_cases g : inB s i = true
   ·refine Ev.st (f := fun k => (shape_Under.f k K P (i : Int) a).bind fun t103 => (if t103 = true then (if acc.length < 17592186044416 then (enter_below.l0 k s a (acc ++ [(i : Int)]) (K.length : Int) (wrap64 ((i : Int) + 1)) K P) else (none)) else (enter_below.l0 k s a acc (K.length : Int) (wrap64 ((i : Int) + 1)) K P))) ?_ (fun k => ?_)
    ·refine Ev.bd (Under_f hn hT (by omega) (by omega) a0 a1) ?_
     simp only [hw]
     by_cases u : unB P i a = true
     ·rw [if_pos ⟨e, g, u⟩]
      refine Ev.pos u (Ev.pos (by omega) ?_)
      exact Ev.val (ih (i + 1) (acc ++ [(i : Int)]) (by omega) (by simp; omega)) (by simp)
     ·rw [if_neg (fun h => u h.2.2)]
      exact Ev.neg u (ih (i + 1) acc (by omega) (by omega))
    ·simp only [enter_below.l0]
     rw [if_pos (by omega), if_neg e, hin, Option.bind_some, if_pos g]
   ·rw [if_neg (fun h => g h.2.1)]
    refine Ev.st (ih (i + 1) acc (by omega) (by omega)) (fun k => ?_)
    simp only [enter_below.l0]
    rw [if_pos (by omega), if_neg e, hin, Option.bind_some, if_neg g, hw]
theorem below_f {K P : List Int} (hn : P.length = K.length) (hT : Tree P) (h24 : K.length < 1000000) (s a : Int) (a0 : -1 ≤ a) (a1 : a < K.length) : Ev (fun k => enter_below.f k K P s a) (belowL K P s a) := by
 have h := below_l0 hn hT h24 s a a0 a1 K.length 0 [] (by omega) (by simp)
 simpa [enter_below.f, belowL] using h
theorem mem_below {K P : List Int} {s a x : Int} : x ∈ belowL K P s a ↔ ∃ j : Nat, x = j ∧ j < K.length ∧ (j : Int) ≠ a ∧ inB s j = true ∧ unB P j a = true := by
 unfold belowL belowFrom
 simp only [List.mem_map, List.mem_filter, List.mem_range'_1, Bool.and_eq_true, decide_eq_true_eq]
 constructor
 ·rintro ⟨j, ⟨h1, h2, h3, h4⟩, rfl⟩; exact ⟨j, rfl, by omega, h2, h3, h4⟩
 ·rintro ⟨j, rfl, h1, h2, h3, h4⟩; exact ⟨j, ⟨by omega, h2, h3, h4⟩, rfl⟩
theorem below_len (K P : List Int) (s a : Int) : (belowL K P s a).length ≤ K.length := by
 unfold belowL belowFrom
 rw [List.length_map]
 exact Nat.le_trans (List.length_filter_le _ _) (by simp)
end Go.Proofs.Ytnomeokicfpidaa.M
namespace Go.Proofs.Ytnomeokicfpidaa.EW
open Go.RowKit Go.Proofs.YtnomeokicfpidaaW.PrintWords Go.Proofs.YtnomeokicfpidaaW.PrintLast Go.Proofs.YtnomeokicfpidaaW.PrintMore Go.Proofs.Ytnomeokicfpidaa.Q Go.Proofs.Ytnomeokicfpidaa.M
attribute [local go_sem] max2_int min2_int max_two min_two max_three min_three max_four min_four
set_option linter.unusedVariables false
set_option linter.unusedSimpArgs false
set_option maxHeartbeats 8000000 in
set_option maxRecDepth 100000 in
theorem in_hist {w0 : World} {AK AP AQ : Option Addr} {cK cP cQ : Nat} {lK lP lQ : List Int} {g : Nat}
  (hK : Kd.C (Kd.int .i64) w0 AK lK.length lK) (hcK : lK.length ≤ cK) (hP : Kd.C (Kd.int .i64) w0 AP lP.length lP) (hcP : lP.length ≤ cP)
  (hn : lP.length = lK.length) (a : Int) (h0 : 0 ≤ a) (h1 : a < lK.length) (b : Bool) (hb3 : (rd lK a == 3) = !b) (hb4 : (rd lK a == 4) = b) (r : List Int) (w : World) (v : Value) (out : List Int)
  (hW : WW w0 w g (.slice AK lK.length cK) (.slice AP lP.length cP) (.slice AQ lQ.length cQ) v out)
  (IH : ∀ (w : World), WW w0 w g (.slice AK lK.length cK) (.slice AP lP.length cP) (.slice AQ lQ.length cQ) v out → Calls Try.prog 59 #[.pointer (some ⟨g, 0, none⟩), .int .i64 (rd lP a), .bool b] w (Put w0 w g (.slice AK lK.length cK) (.slice AP lP.length cP) (.slice AQ lQ.length cQ) v r)) :
  Calls Try.prog 52 #[.pointer (some ⟨g, 0, none⟩), .int .i64 a] w (Put w0 w g (.slice AK lK.length cK) (.slice AP lP.length cP) (.slice AQ lQ.length cQ) v r) := by
 have hu24 := Try.underlying24
 have hu70 := Try.underlying70
 have hc0 : w.cell? ⟨g, 0, none⟩ = some (.slice AK lK.length cK) := (blk_cell hW.blk 0).trans rfl
 have hc1 : w.cell? ⟨g, 1, none⟩ = some (.slice AP lP.length cP) := (blk_cell hW.blk 1).trans rfl
 obtain ⟨ad, e, hx⟩ := Kd.at_int (Kd.C_below hK hW.below) a h0 (by omega)
 subst e
 obtain ⟨adP, e, hxP⟩ := Kd.at_int (Kd.C_below hP hW.below) a h0 (by omega)
 subst e
 have p0 := eq_true h0
 have p1 := eq_true h1
 have p2 := eq_true (show a < (lP.length : Int) by omega)
 have HW := Aside0.mk hW
 have HN := Aside0.mk hn
 have HH := Aside0.mk IH
 clear hW hn IH h0 h1
 cases b with
 | true =>
  have t3 : (rd lK a == 3) = false := hb3
  have t4 : (rd lK a == 4) = true := hb4
  clear hb3 hb4
  go_enter Try.func52, Try.ntmps52
  go_wp2
  go_still_tail 18, (by kernel_rfl)
  have hWn := HW.out.step (below_drew (Below.refl w.heap.size w))
  have hFn := Fr.of_below (below_drew (Below.refl w.heap.size w)) g v
  have HWN := Aside0.mk hWn
  have HFN := Aside0.mk hFn
  clear hWn hFn
  go_wp2_with (go_at_call 59; (with_reducible refine (HH.out _ HWN.out).mono ?_); rintro e w4 ⟨rfl, v', hW4, hF4⟩)
  refine bodyPost_ret (v := .tuple #[]) (by simp [results, Try.results52, go_sem]) rfl ?_
  exact ⟨rfl, v', hW4, HFN.out.trans hF4⟩
 | false =>
  have t3 : (rd lK a == 3) = true := hb3
  have t4 : (rd lK a == 4) = false := hb4
  clear hb3 hb4
  go_enter Try.func52, Try.ntmps52
  go_wp2
  go_still_tail 18, (by kernel_rfl)
  have hWn := HW.out.step (below_drew (Below.refl w.heap.size w))
  have hFn := Fr.of_below (below_drew (Below.refl w.heap.size w)) g v
  have HWN := Aside0.mk hWn
  have HFN := Aside0.mk hFn
  clear hWn hFn
  go_wp2_with (go_at_call 59; (with_reducible refine (HH.out _ HWN.out).mono ?_); rintro e w4 ⟨rfl, v', hW4, hF4⟩)
  refine bodyPost_ret (v := .tuple #[]) (by simp [results, Try.results52, go_sem]) rfl ?_
  exact ⟨rfl, v', hW4, HFN.out.trans hF4⟩
def inA (K P Q : List Int) (a : Int) : List Int :=
 if rd K a = 3 then backR K P (inS K P K.length) (belowL K P (wasS Q (rd P a)) (rd P a)) (rd P a) false
 else if rd K a = 4 then backR K P (inS K P K.length) (belowL K P (wasS Q (rd P a)) (rd P a)) (rd P a) true
 else inS K P K.length a
def pathR (K P Q : List Int) (z : Int) : Nat → Int → List Int
 | 0, _ => []
 | f + 1, a => if a = z then inA K P Q z else a :: ((kids P a).flatMap (fun k => if unB P z k = true then pathR K P Q z f k else []) ++ (kids P a).flatMap (fun k => if rd K a = 2 ∧ unB P z k = false then inA K P Q k else []))
theorem rd_range {K P : List Int} (h : Ok K P) {a : Int} (h0 : 0 ≤ a) (h1 : a < K.length) : 1 ≤ rd K a ∧ rd K a ≤ 4 := by
 obtain ⟨a1, a2, _⟩ := okS_iff.1 (h.2.2.1 a.toNat (by omega))
 unfold rd; exact ⟨a1, a2⟩
theorem in_any {w0 : World} {AK AP AQ : Option Addr} {cK cP cQ : Nat} {lK lP lQ : List Int} {g : Nat}
  (hK : Kd.C (Kd.int .i64) w0 AK lK.length lK) (hcK : lK.length ≤ cK) (hP : Kd.C (Kd.int .i64) w0 AP lP.length lP) (hcP : lP.length ≤ cP) (hQ : Kd.C (Kd.int .u32) w0 AQ lQ.length lQ) (hcQ : lQ.length ≤ cQ) (hO : Ok lK lP)
  (a : Int) (h0 : 0 ≤ a) (h1 : a < lK.length) (w : World) (v : Value) (out : List Int)
  (hW : WW w0 w g (.slice AK lK.length cK) (.slice AP lP.length cP) (.slice AQ lQ.length cQ) v out) (hl : (out ++ inA lK lP lQ a).length < 17592186044416) :
  Calls Try.prog 52 #[.pointer (some ⟨g, 0, none⟩), .int .i64 a] w (Put w0 w g (.slice AK lK.length cK) (.slice AP lP.length cP) (.slice AQ lQ.length cQ) v (out ++ inA lK lP lQ a)) := by
 have hn := hO.1
 have h24 := hO.2.2.2.2
 have hT := hO.tree
 have hr := rd_range hO h0 h1
 have hp := hT.rdP h0 (by omega)
 obtain ⟨_, _, b1, b2, b3⟩ := okS_iff.1 (hO.2.2.1 a.toNat (by omega))
 have e1 : lP.getD a.toNat 0 = rd lP a := rfl
 have e2 : lK.getD a.toNat 0 = rd lK a := rfl
 rw [e1] at b1 b2 b3
 rw [e2] at b3
 have hS := in_solid (AQ := AQ) (cQ := cQ) (lQ := lQ) (g := g) hK hcK hP hcP hO lK.length
 have back : 3 ≤ rd lK a → ∀ (b : Bool), (out ++ backR lK lP (inS lK lP lK.length) (belowL lK lP (wasS lQ (rd lP a)) (rd lP a)) (rd lP a) b).length < 17592186044416 → ∀ (w : World), WW w0 w g (.slice AK lK.length cK) (.slice AP lP.length cP) (.slice AQ lQ.length cQ) v out →
   Calls Try.prog 59 #[.pointer (some ⟨g, 0, none⟩), .int .i64 (rd lP a), .bool b] w (Put w0 w g (.slice AK lK.length cK) (.slice AP lP.length cP) (.slice AQ lQ.length cQ) v (out ++ backR lK lP (inS lK lP lK.length) (belowL lK lP (wasS lQ (rd lP a)) (rd lP a)) (rd lP a) b)) := by
  intro h3 b hl w hW
  have hup : 0 ≤ rd lP a := by
   by_cases e : rd lP a = -1
   ·rw [if_pos e] at b3
    have := solidB_iff.1 b3; omega
   ·omega
  refine back_calls hK hcK hP hcP hQ hcQ hn h24 (rd lP a) b _ (fun x hx => ?_) ?_ (below_f hn hT (by omega) _ _ (by omega) (by omega)).rounds _ w v out hW hl ?_
  ·obtain ⟨j, rfl, hj, _⟩ := mem_below.1 hx
   omega
  ·exact Nat.le_trans (below_len _ _ _ _) h24
  ·intro x x0 x1 x2 w v hW hl
   have := (rd_range hO x0 x1).1
   exact hS x x0 x1 (by omega) (solidB_iff.2 (by omega)) w v out hW hl
 unfold inA at hl ⊢
 by_cases c3 : rd lK a = 3
 ·rw [if_pos c3] at hl ⊢
  exact in_hist hK hcK hP hcP hn a h0 h1 false (by rw [c3]; rfl) (by rw [c3]; rfl) _ w v out hW (back (by omega) false hl)
 ·rw [if_neg c3] at hl ⊢
  by_cases c4 : rd lK a = 4
  ·rw [if_pos c4] at hl ⊢
   exact in_hist hK hcK hP hcP hn a h0 h1 true (by rw [c4]; rfl) (by rw [c4]; rfl) _ w v out hW (back (by omega) true hl)
  ·rw [if_neg c4] at hl ⊢
   exact hS a h0 h1 (by omega) (solidB_iff.2 (by omega)) w v out hW hl
end Go.Proofs.Ytnomeokicfpidaa.EW
namespace Go.Proofs.Ytnomeokicfpidaa.EW
open Go.RowKit Go.Proofs.YtnomeokicfpidaaW.PrintWords Go.Proofs.YtnomeokicfpidaaW.PrintLast Go.Proofs.YtnomeokicfpidaaW.PrintMore Go.Proofs.Ytnomeokicfpidaa.Q Go.Proofs.Ytnomeokicfpidaa.M
attribute [local go_sem] max2_int min2_int max_two min_two max_three min_three max_four min_four
set_option linter.unusedVariables false
set_option linter.unusedSimpArgs false
set_option maxHeartbeats 8000000 in
set_option maxRecDepth 100000 in
theorem path_end {w0 : World} {sK sP sQ : Value} {g : Nat} (a : Int) (r : List Int) (w : World) (v : Value) (out : List Int)
  (hW : WW w0 w g sK sP sQ v out)
  (IH : Calls Try.prog 52 #[.pointer (some ⟨g, 0, none⟩), .int .i64 a] w (Put w0 w g sK sP sQ v r)) :
  Calls Try.prog 53 #[.pointer (some ⟨g, 0, none⟩), .int .i64 a, .int .i64 a] w (Put w0 w g sK sP sQ v r) := by
 have t1 : (a == a) = true := beq_self_eq_true a
 have HH := Aside0.mk IH
 clear IH hW
 go_enter Try.func53, Try.ntmps53
 go_wp2_with (go_at_call 52; (with_reducible refine HH.out.mono ?_); rintro e w4 ⟨rfl, v', hW4, hF4⟩)
 refine bodyPost_ret (v := .tuple #[]) (by simp [results, Try.results53, go_sem]) rfl ?_
 exact ⟨rfl, v', hW4, hF4⟩
set_option maxHeartbeats 16000000 in
set_option maxRecDepth 100000 in
theorem path_step {w0 : World} {AK AP AQ : Option Addr} {cK cP cQ : Nat} {lK lP lQ : List Int} {g : Nat}
  (hK : Kd.C (Kd.int .i64) w0 AK lK.length lK) (hcK : lK.length ≤ cK) (hP : Kd.C (Kd.int .i64) w0 AP lP.length lP) (hcP : lP.length ≤ cP) (hO : Ok lK lP)
  (z : Int) (z0 : 0 ≤ z) (z1 : z < lK.length) (a : Int) (h0 : 0 ≤ a) (h1 : a < lK.length) (hne : a ≠ z) (w : World) (v : Value) (out : List Int)
  (hW : WW w0 w g (.slice AK lK.length cK) (.slice AP lP.length cP) (.slice AQ lQ.length cQ) v out) (F G F1 G1 : Int → List Int)
  (hF1 : F1 = fun k => if unB lP z k = true then F k else []) (hG1 : G1 = fun k => if rd lK a = 2 ∧ unB lP z k = false then G k else [])
  (hl : (out ++ [a] ++ ((kids lP a).flatMap F1 ++ (kids lP a).flatMap G1)).length < 17592186044416)
  (IH : ∀ x ∈ kids lP a, ∀ (w : World) (v : Value) (out : List Int), WW w0 w g (.slice AK lK.length cK) (.slice AP lP.length cP) (.slice AQ lQ.length cQ) v out → (out ++ F x).length < 17592186044416 → Calls Try.prog 53 #[.pointer (some ⟨g, 0, none⟩), .int .i64 x, .int .i64 z] w (Put w0 w g (.slice AK lK.length cK) (.slice AP lP.length cP) (.slice AQ lQ.length cQ) v (out ++ F x)))
  (JH : ∀ x ∈ kids lP a, ∀ (w : World) (v : Value) (out : List Int), WW w0 w g (.slice AK lK.length cK) (.slice AP lP.length cP) (.slice AQ lQ.length cQ) v out → (out ++ G x).length < 17592186044416 → Calls Try.prog 52 #[.pointer (some ⟨g, 0, none⟩), .int .i64 x] w (Put w0 w g (.slice AK lK.length cK) (.slice AP lP.length cP) (.slice AQ lQ.length cQ) v (out ++ G x))) :
  Calls Try.prog 53 #[.pointer (some ⟨g, 0, none⟩), .int .i64 a, .int .i64 z] w (Put w0 w g (.slice AK lK.length cK) (.slice AP lP.length cP) (.slice AQ lQ.length cQ) v (out ++ [a] ++ ((kids lP a).flatMap F1 ++ (kids lP a).flatMap G1))) := by
 have hn := hO.1
 have h24 := hO.2.2.2.2
 have hkin := kids_in hn a
 obtain ⟨k, hk⟩ := (Kids_f lK lP a (by omega)).rounds
 have hu24 := Try.underlying24
 have hu70 := Try.underlying70
 have hc0 : w.cell? ⟨g, 0, none⟩ = some (.slice AK lK.length cK) := (blk_cell hW.blk 0).trans rfl
 have hc1 : w.cell? ⟨g, 1, none⟩ = some (.slice AP lP.length cP) := (blk_cell hW.blk 1).trans rfl
 have hc3 : w.cell? ⟨g, 3, none⟩ = some v := (blk_cell hW.blk 3).trans rfl
 have t1 : (a == z) = false := beq_eq_false_iff_ne.mpr hne
 have HZ := Aside0.mk (And.intro z0 z1)
 have HA := Aside0.mk (And.intro h0 h1)
 clear hne z0 z1 h0 h1
 have HF1 := Aside0.mk hF1
 have HG1 := Aside0.mk hG1
 clear hF1 hG1
 have HO := Aside0.mk hO
 clear hO
 have HKI := Aside0.mk hkin
 clear hkin
 have HW := Aside0.mk hW
 clear hW
 have HK := Aside0.mk hk
 clear hk
 have HN := Aside0.mk hn
 clear hn
 obtain ⟨y, hy⟩ : ∃ y : List Int, y = out ++ [a] := ⟨_, rfl⟩
 have hlen : y.length = out.length + 1 := by rw [hy, List.length_append, List.length_singleton]
 rw [← hy] at hl ⊢
 have hly : y.length + (((kids lP a).flatMap F1).length + ((kids lP a).flatMap G1).length) < 17592186044416 := by rw [List.length_append, List.length_append] at hl; exact hl
 have HL := Aside0.mk (show out.length + 1 < 17592186044416 by omega)
 have HLY := Aside0.mk hly
 clear hl hly hlen
 have HY := Aside0.mk hy
 clear hy
 have HH := Aside0.mk IH
 have HJ := Aside0.mk JH
 clear IH JH
 have hkl := kids_len lP a
 obtain ⟨L, hL⟩ : ∃ L, L = kids lP a := ⟨_, rfl⟩
 rw [← hL] at hkl
 have HLL := Aside0.mk hL
 have hl24 : L.length ≤ 24 := by have := HN.out; omega
 clear hL hkl
 go_enter Try.func53, Try.ntmps53
 go_wp2_with (first | ((with_reducible refine gate_builtin (b := .append) (xs := #[.tmp 21, .tmp 23]) rfl ?_); at_builtin; refine Kd.R_append (Kd.int .i64) (w0 := w0) w0.heap.size rfl (.tmp 21) (.tmp 23) 22 3 (.int .i64 0) 8 rfl Try.underlying22 infoI rfl (by decide) (by omega) v out a [.int .i64 a] (fun _ => True) (fun _ => False) rfl rfl ?aP (fun _ hk => hk.elim) ?aF ?aO ?aB ?aS ?aL ?_; (case aP => exact rfl); (case aB => exact HW.out.below); (case aF => exact (fun _ _ => trivial)); (case aO => exact HW.out.own); (case aS => exact HW.out.below.size); (case aL => have := HL.out; omega); intro v1 w1 ho hb hg hat; rw [← HY.out] at ho; obtain ⟨Av, cv, ev⟩ := Kd.R_slice ho; subst ev; obtain ⟨hb1, hW2, hF⟩ := HW.out.push ho hb hg hat; clear ho hb hg hat; have hc3' : w1.cell? ⟨g, 3, none⟩ = some v := (blk_cell hb1 3).trans rfl; have hf3' := blk_frozen hb1 3; clear hb1; have hd0 : (w1.setCell ⟨g, 3, none⟩ (.slice Av y.length cv)).cell? ⟨g, 0, none⟩ = some (.slice AK lK.length cK) := (blk_cell hW2.blk 0).trans rfl; have hd1 : (w1.setCell ⟨g, 3, none⟩ (.slice Av y.length cv)).cell? ⟨g, 1, none⟩ = some (.slice AP lP.length cP) := (blk_cell hW2.blk 1).trans rfl; have HW2 := Aside0.mk hW2; clear hW2; have HF := Aside0.mk hF; clear hF) | (go_at_call 25; (with_reducible refine (shape_Kids.calls k _ _ lK _ _ lP a _ _ ?s1 ?s2 ?s3 ?s4 HK.out).mono ?_); (case s1 => exact Kd.C_below hK HW2.out.below); (case s2 => exact hcK); (case s3 => exact Kd.C_below hP HW2.out.below); (case s4 => exact hcP); rintro e w3 ⟨vk, rfl, hok, hb3⟩; rw [← HLL.out] at hok; obtain ⟨Ak, ck, ek⟩ := Kd.R_slice hok; subst ek; have HOK := Aside0.mk hok; clear hok; have HB3 := Aside0.mk hb3; clear hb3))
 go_loopg [8, 35] L.length (fun kq v8 v35 w' => ∃ (xi : Int) (v' : Value), v35 = .int .i64 xi ∧ Aside0 (0 ≤ xi ∧ xi + kq = L.length) ∧ Aside0 (WW w0 w' g (.slice AK lK.length cK) (.slice AP lP.length cP) (.slice AQ lQ.length cQ) v' (y ++ (L.take xi.toNat).flatMap F1)) ∧ Aside0 (Fr w3 w' g (.slice Av y.length cv) v'))
 case atStart => exact ⟨0, _, rfl, ⟨by omega, by omega⟩, ⟨by simpa using HW2.out.step HB3.out⟩, ⟨Fr.refl _ _ _⟩⟩
 case round =>
  obtain ⟨xi, v', rfl, HX, HW3, HF3⟩ := hrel
  cases gk with
  | zero =>
   have c1 : decide (xi < (L.length : Int)) = false := decide_eq_false (by have := HX.out; omega)
   have hdone : y ++ (L.take xi.toNat).flatMap F1 = y ++ L.flatMap F1 := by rw [List.take_of_length_le (by have := HX.out; omega)]
   have hW4 := HW3.out
   rw [hdone] at hW4
   have HW4 := Aside0.mk hW4
   clear hdone hW4 HW3
   have HFA := Aside0.mk HF3.out
   clear HF3 HX
   go_wp2
   go_loopg [10, 53] L.length (fun kq v10 v53 w' => ∃ (xi : Int) (v' : Value), v53 = .int .i64 xi ∧ Aside0 (0 ≤ xi ∧ xi + kq = L.length) ∧ Aside0 (WW w0 w' g (.slice AK lK.length cK) (.slice AP lP.length cP) (.slice AQ lQ.length cQ) v' (y ++ L.flatMap F1 ++ (L.take xi.toNat).flatMap G1)) ∧ Aside0 (Fr w3 w' g (.slice Av y.length cv) v'))
   case atStart => exact ⟨0, _, rfl, ⟨by omega, by omega⟩, ⟨by simpa using HW4.out⟩, HFA⟩
   case round =>
    clear c1 HFA HW4
    obtain ⟨xi, v', rfl, HX, HW3, HF3⟩ := hrel
    cases gk with
    | zero =>
     have c1 : decide (xi < (L.length : Int)) = false := decide_eq_false (by have := HX.out; omega)
     have hdone : y ++ L.flatMap F1 ++ (L.take xi.toNat).flatMap G1 = y ++ (L.flatMap F1 ++ L.flatMap G1) := by rw [List.take_of_length_le (by have := HX.out; omega), List.append_assoc]
     have HD := Aside0.mk hdone
     clear hdone
     go_wp2
     go_end0
     rw [← HLL.out, ← HD.out]
     exact ⟨rfl, v', HW3.out, (HF.out.trans (Fr.of_below HB3.out g _)).trans HF3.out⟩
    | succ k1 =>
     have c0 := eq_true HX.out.1
     have hlt : xi < (L.length : Int) := by have := HX.out; omega
     have c1 := eq_true hlt
     have c2 : decide (xi < (L.length : Int)) = true := decide_eq_true hlt
     have hr := row_after HOK.out HW2.out.lt (Kd.R_lt HW2.out.own) HF3.out
     obtain ⟨adk, ek, hxk⟩ := Kd.at_int (Kd.R_reads' hr).2.2 xi HX.out.1 (by omega)
     subst ek
     clear hr hlt
     have hmem : rd L xi ∈ kids lP a := by
      rw [← HLL.out]
      have := HX.out
      unfold rd
      rw [List.getD_eq_getElem?_getD, List.getElem?_eq_getElem (by omega)]; exact List.getElem_mem _
     have hft : (L.take (xi + 1).toNat).flatMap G1 = (L.take xi.toNat).flatMap G1 ++ G1 (rd L xi) := by
      have := HX.out
      rw [show (xi + 1).toNat = xi.toNat + 1 by omega, flat_take (by omega), show ((xi.toNat : Nat) : Int) = xi by omega]
     have hbd : ((y ++ L.flatMap F1) ++ (L.take xi.toNat).flatMap G1 ++ G1 (rd L xi)).length < 17592186044416 := by
      rw [List.append_assoc, ← hft, List.length_append]
      have := flat_le (F := G1) (L := L) (xi + 1).toNat
      have := HLY.out
      rw [← HLL.out] at this
      have hyl := @List.length_append _ y (L.flatMap F1)
      omega
     obtain ⟨x, hx⟩ : ∃ x, rd L xi = x := ⟨_, rfl⟩
     rw [hx] at hxk hmem hft hbd
     have hd0' : _ = some (Value.slice AK lK.length cK) := (blk_cell HW3.out.blk 0).trans rfl
     have hd1' : _ = some (Value.slice AP lP.length cP) := (blk_cell HW3.out.blk 1).trans rfl
     have hxr := HKI.out x hmem
     obtain ⟨ku, hku⟩ := (Under_f HN.out HO.out.tree HZ.out.1 HZ.out.2 (show -1 ≤ x by omega) hxr.2).rounds
     have HM := Aside0.mk hmem
     have HXX := Aside0.mk hx
     clear hmem hx hxr
     have hw : wrap64 (xi + 1) = xi + 1 := by have := HX.out; exact w64 (by omega) (by omega)
     have HWR := Aside0.mk hw
     clear hw
     obtain ⟨adK, eK, hxK⟩ := Kd.at_int (Kd.C_below hK HW3.out.below) a HA.out.1 (by have := HA.out; omega)
     subst eK
     have q0 := eq_true HA.out.1
     have q1 := eq_true HA.out.2
     by_cases u2 : rd lK a = 2
     ·have t2 : (rd lK a == 2) = true := beq_iff_eq.mpr u2
      by_cases u : unB lP z x = true
      ·have e1 : G1 x = [] := by rw [HG1.out]; exact if_neg (by rw [u]; simp)
       rw [e1, List.append_nil] at hft
       rw [u] at hku
       have HKU := Aside0.mk hku
       have HFT := Aside0.mk hft
       clear u u2 e1 hku hft hbd
       go_wp2_with (first | (go_at_call 27; (with_reducible refine (shape_Under.calls ku _ _ lK _ _ lP z x _ _ ?s1 ?s2 ?s3 ?s4 HKU.out).mono ?_); (case s1 => exact Kd.C_below hK HW3.out.below); (case s2 => exact hcK); (case s3 => exact Kd.C_below hP HW3.out.below); (case s4 => exact hcP); rintro e w5 ⟨rfl, hb5⟩; have HB5 := Aside0.mk hb5; clear hb5))
       go_roundg k1
       case measure => have := HX.out; omega
       case rel => exact ⟨wrap64 (xi + 1), v', (by first | rfl | (simp; done) | (simp [*]; done)), ⟨by rw [HWR.out]; have := HX.out; omega⟩, ⟨by rw [HWR.out, HFT.out]; exact HW3.out.step HB5.out⟩, ⟨HF3.out.trans (Fr.of_below HB5.out g _)⟩⟩
      ·have u := eq_false_of_ne_true u
       have e1 : G1 x = G x := by rw [HG1.out]; exact if_pos ⟨u2, u⟩
       rw [e1] at hft hbd
       rw [u] at hku
       have HKU := Aside0.mk hku
       have HFT := Aside0.mk hft
       have HBD := Aside0.mk hbd
       clear u u2 e1 hku hft hbd
       go_wp2_with (first | (go_at_call 27; (with_reducible refine (shape_Under.calls ku _ _ lK _ _ lP z x _ _ ?s1 ?s2 ?s3 ?s4 HKU.out).mono ?_); (case s1 => exact Kd.C_below hK HW3.out.below); (case s2 => exact hcK); (case s3 => exact Kd.C_below hP HW3.out.below); (case s4 => exact hcP); rintro e w5 ⟨rfl, hb5⟩; have HB5 := Aside0.mk hb5; clear hb5) | (go_at_call 52; (with_reducible refine (HJ.out x HM.out w5 _ _ (HW3.out.step HB5.out) HBD.out).mono ?_); rintro e w4 ⟨rfl, v4, hW4, hF4⟩; have HW4 := Aside0.mk hW4; have HF4 := Aside0.mk hF4; clear hW4 hF4))
       go_roundg k1
       case measure => have := HX.out; omega
       case rel => exact ⟨wrap64 (xi + 1), v4, (by first | rfl | (simp; done) | (simp [*]; done)), ⟨by rw [HWR.out]; have := HX.out; omega⟩, ⟨by rw [HWR.out, HFT.out, ← List.append_assoc]; exact HW4.out⟩, ⟨(HF3.out.trans (Fr.of_below HB5.out g _)).trans HF4.out⟩⟩
     ·have t2 : (rd lK a == 2) = false := beq_eq_false_iff_ne.mpr u2
      have e1 : G1 x = [] := by rw [HG1.out]; exact if_neg (fun h => u2 h.1)
      rw [e1, List.append_nil] at hft
      have HFT := Aside0.mk hft
      clear u2 e1 hku hft hbd
      go_wp2
      go_roundg k1
      case measure => have := HX.out; omega
      case rel => exact ⟨wrap64 (xi + 1), v', (by first | rfl | (simp; done) | (simp [*]; done)), ⟨by rw [HWR.out]; have := HX.out; omega⟩, ⟨by rw [HWR.out, HFT.out]; exact HW3.out⟩, ⟨HF3.out⟩⟩
  | succ k1 =>
   have c0 := eq_true HX.out.1
   have hlt : xi < (L.length : Int) := by have := HX.out; omega
   have c1 := eq_true hlt
   have c2 : decide (xi < (L.length : Int)) = true := decide_eq_true hlt
   have hr := row_after HOK.out HW2.out.lt (Kd.R_lt HW2.out.own) HF3.out
   obtain ⟨adk, ek, hxk⟩ := Kd.at_int (Kd.R_reads' hr).2.2 xi HX.out.1 (by omega)
   subst ek
   clear hr hlt
   have hmem : rd L xi ∈ kids lP a := by
    rw [← HLL.out]
    have := HX.out
    unfold rd
    rw [List.getD_eq_getElem?_getD, List.getElem?_eq_getElem (by omega)]; exact List.getElem_mem _
   have hft : (L.take (xi + 1).toNat).flatMap F1 = (L.take xi.toNat).flatMap F1 ++ F1 (rd L xi) := by
    have := HX.out
    rw [show (xi + 1).toNat = xi.toNat + 1 by omega, flat_take (by omega), show ((xi.toNat : Nat) : Int) = xi by omega]
   have hbd : (y ++ (L.take xi.toNat).flatMap F1 ++ F1 (rd L xi)).length < 17592186044416 := by
    rw [List.append_assoc, ← hft, List.length_append]
    have := flat_le (F := F1) (L := L) (xi + 1).toNat
    have := HLY.out
    rw [← HLL.out] at this
    have hyl := @List.length_append _ y (L.flatMap F1)
    omega
   obtain ⟨x, hx⟩ : ∃ x, rd L xi = x := ⟨_, rfl⟩
   rw [hx] at hxk hmem hft hbd
   have hd0' : _ = some (Value.slice AK lK.length cK) := (blk_cell HW3.out.blk 0).trans rfl
   have hd1' : _ = some (Value.slice AP lP.length cP) := (blk_cell HW3.out.blk 1).trans rfl
   have hxr := HKI.out x hmem
   obtain ⟨ku, hku⟩ := (Under_f HN.out HO.out.tree HZ.out.1 HZ.out.2 (show -1 ≤ x by omega) hxr.2).rounds
   have HM := Aside0.mk hmem
   have HXX := Aside0.mk hx
   clear hmem hx hxr
   have hw : wrap64 (xi + 1) = xi + 1 := by have := HX.out; exact w64 (by omega) (by omega)
   have HWR := Aside0.mk hw
   clear hw
   by_cases u : unB lP z x = true
   ·have e1 : F1 x = F x := by rw [HF1.out]; exact if_pos u
    rw [e1] at hft hbd
    rw [u] at hku
    have HKU := Aside0.mk hku
    have HFT := Aside0.mk hft
    have HBD := Aside0.mk hbd
    clear u e1 hku hft hbd
    go_wp2_with (first | (go_at_call 27; (with_reducible refine (shape_Under.calls ku _ _ lK _ _ lP z x _ _ ?s1 ?s2 ?s3 ?s4 HKU.out).mono ?_); (case s1 => exact Kd.C_below hK HW3.out.below); (case s2 => exact hcK); (case s3 => exact Kd.C_below hP HW3.out.below); (case s4 => exact hcP); rintro e w5 ⟨rfl, hb5⟩; have HB5 := Aside0.mk hb5; clear hb5) | (go_at_call 53; (with_reducible refine (HH.out x HM.out w5 _ _ (HW3.out.step HB5.out) HBD.out).mono ?_); rintro e w4 ⟨rfl, v4, hW4, hF4⟩; have HW4 := Aside0.mk hW4; have HF4 := Aside0.mk hF4; clear hW4 hF4))
    go_roundg k1
    case measure => have := HX.out; omega
    case rel => exact ⟨wrap64 (xi + 1), v4, (by first | rfl | (simp; done) | (simp [*]; done)), ⟨by rw [HWR.out]; have := HX.out; omega⟩, ⟨by rw [HWR.out, HFT.out, ← List.append_assoc]; exact HW4.out⟩, ⟨(HF3.out.trans (Fr.of_below HB5.out g _)).trans HF4.out⟩⟩
   ·have u := eq_false_of_ne_true u
    have e1 : F1 x = [] := by rw [HF1.out]; exact if_neg (by rw [u]; simp)
    rw [e1, List.append_nil] at hft
    rw [u] at hku
    have HKU := Aside0.mk hku
    have HFT := Aside0.mk hft
    clear u e1 hku hft hbd
    go_wp2_with (first | (go_at_call 27; (with_reducible refine (shape_Under.calls ku _ _ lK _ _ lP z x _ _ ?s1 ?s2 ?s3 ?s4 HKU.out).mono ?_); (case s1 => exact Kd.C_below hK HW3.out.below); (case s2 => exact hcK); (case s3 => exact Kd.C_below hP HW3.out.below); (case s4 => exact hcP); rintro e w5 ⟨rfl, hb5⟩; have HB5 := Aside0.mk hb5; clear hb5))
    go_roundg k1
    case measure => have := HX.out; omega
    case rel => exact ⟨wrap64 (xi + 1), v', (by first | rfl | (simp; done) | (simp [*]; done)), ⟨by rw [HWR.out]; have := HX.out; omega⟩, ⟨by rw [HWR.out, HFT.out]; exact HW3.out.step HB5.out⟩, ⟨HF3.out.trans (Fr.of_below HB5.out g _)⟩⟩
end Go.Proofs.Ytnomeokicfpidaa.EW
