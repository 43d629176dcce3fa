-- merged and slimmed by slim.py (a program of this repo)
import Derived.Test.YtnomeokicfpidaaKEnterTells2
namespace Go.Proofs.Ytnomeokicfpidaa.Q
open Go.RowKit Go.Proofs.YtnomeokicfpidaaW.PrintWords Go.Proofs.YtnomeokicfpidaaW.PrintLast Go.Proofs.YtnomeokicfpidaaW.PrintMore
attribute [local go_sem] max2_int min2_int max_two min_two max_three min_three max_four min_four
set_option linter.unusedVariables false
set_option linter.unusedSimpArgs false
def q13.f (l0_0:List Int) (l0_1:List Int) (a1:Int):Option (Bool):=if a1 ≥ 0 then (some (decide (a1 < (l0_0.length:Int)))) else (some false)
set_option maxHeartbeats 8000000 in
set_option maxRecDepth 100000 in
theorem q13.calls (A0_0:Option Addr) (c0_0:Nat) (l0_0:List Int) (A0_1:Option Addr) (c0_1:Nat) (l0_1:List Int) (a1:Int) (r:Bool) (w:World) (hr0_0:Kd.C (Kd.int .i64) w A0_0 l0_0.length l0_0) (hc0_0:l0_0.length ≤ c0_0) (hr0_1:Kd.C (Kd.int .i64) w A0_1 l0_1.length l0_1) (hc0_1:l0_1.length ≤ c0_1) (h:q13.f l0_0 l0_1 a1 = some r) :
  Calls Try.prog 54 #[.agg #[.slice A0_0 l0_0.length c0_0,.slice A0_1 l0_1.length c0_1],.int .i64 a1] w fun e w'=>e = .returned (.bool r) ∧ Below w.heap.size w w':=by
 have hu25:=Try.underlying25
 have HR0_0:=Aside0.mk hr0_0
 have HC0_0:=Aside0.mk hc0_0
 clear hr0_0 hc0_0
 have HR0_1:=Aside0.mk hr0_1
 have HC0_1:=Aside0.mk hc0_1
 clear hr0_1 hc0_1
 have HB:=zk (Below.refl w.heap.size w)
 have H:(if a1 ≥ 0 then (some (decide (a1 < (l0_0.length:Int)))) else (some false)) = some r:=h
 clear h
 by_cases c3:a1 ≥ 0
 ·rw [if_pos c3] at H
  have c3b0:decide (0 ≤ a1) = true:=decide_eq_true c3
  clear c3
  obtain rfl:=Option.some.inj H
  go_enter Try.func54,Try.ntmps54
  go_wp2_with (first|((with_reducible refine gate_dst (N:=2) rfl ?_);(try (refine gate_guard (by rfl) ?_;dsimp only));refine box_event ?hg (N:=2) ?hd (cs:=#[.slice A0_0 l0_0.length c0_0,.slice A0_1 l0_1.length c0_1]) (t:=25) ?hr ?_;(case hd=>rfl);(case hg=>rfl);(case hr=>first|(go_simp;done)|(go_simp;rfl));intro gb101 hg w4 hbox hb;have n0_:=zk (below_step (bq HB.out) hb);have n1_:=zk (hbox);have n2_:=zk ((by rw [hg];exact (below_size (bq HB.out)):w.heap.size ≤ gb101));have n3_:=zk ((by rw [hg];exact (below_size (bq HB.out)):w.heap.size ≤ gb101));clear HB;have HB:=n0_;have BK101:=n1_;have GW101:=n2_;have GE101:=n3_;clear n0_ n1_ n2_ n3_;clear hb hbox hg;have hcz5_0:w4.cell? ⟨gb101,0,none⟩ = some (.slice A0_0 l0_0.length c0_0):=(blk_cell BK101.out 0).trans rfl;have hcz5_1:w4.cell? ⟨gb101,1,none⟩ = some (.slice A0_1 l0_1.length c0_1):=(blk_cell BK101.out 1).trans rfl;have hfz5_0:=blk_frozen BK101.out 0;have hfz5_1:=blk_frozen BK101.out 1))
  go_ret
  exact ⟨by first|rfl|(simp [errW_none,errW_some] <;> rfl)|(simp [*,errW_none,errW_some] <;> rfl),bg HB.out GE101 GE101⟩
 ·rw [if_neg c3] at H
  have c3b0:decide (0 ≤ a1) = false:=decide_eq_false c3
  clear c3
  obtain rfl:=Option.some.inj H
  go_enter Try.func54,Try.ntmps54
  go_wp2_with (first|((with_reducible refine gate_dst (N:=2) rfl ?_);(try (refine gate_guard (by rfl) ?_;dsimp only));refine box_event ?hg (N:=2) ?hd (cs:=#[.slice A0_0 l0_0.length c0_0,.slice A0_1 l0_1.length c0_1]) (t:=25) ?hr ?_;(case hd=>rfl);(case hg=>rfl);(case hr=>first|(go_simp;done)|(go_simp;rfl));intro gb101 hg w6 hbox hb;have n0_:=zk (below_step (bq HB.out) hb);have n1_:=zk (hbox);have n2_:=zk ((by rw [hg];exact (below_size (bq HB.out)):w.heap.size ≤ gb101));have n3_:=zk ((by rw [hg];exact (below_size (bq HB.out)):w.heap.size ≤ gb101));clear HB;have HB:=n0_;have BK101:=n1_;have GW101:=n2_;have GE101:=n3_;clear n0_ n1_ n2_ n3_;clear hb hbox hg))
  go_ret
  exact ⟨by first|rfl|(simp [errW_none,errW_some] <;> rfl)|(simp [*,errW_none,errW_some] <;> rfl),bg HB.out GE101 GE101⟩
mutual
def q3.j0:Nat → Int → Int → Bool → List Int → List Int → Option (Bool)
 | 0,_,_,_,_,_=>none
 | k + 1,x1,x2,x21,x102000,x102001=>if x21 = true then (some false) else (q3.l0 k x1 x2 x102000 x102001)
def q3.l0:Nat → Int → Int → List Int → List Int → Option (Bool)
 | 0,_,_,_,_=>none
 | k + 1,x1,x2,x102000,x102001=>if x1 ≥ 0 then (if x1 = x2 then (some (x1 == x2)) else (if 0 ≤ x1 then (if x1 < (x102001.length:Int) then (q3.l0 k (rd x102001 x1) x2 x102000 x102001) else (none)) else (none))) else (some (x1 == x2))
end
def q3.f (k:Nat) (l0_0:List Int) (l0_1:List Int) (a1:Int) (a2:Int):Option (Bool):=(q13.f l0_0 l0_1 a1).bind fun t102=>(if t102 = true then (if a2 < (-1) then (q3.j0 k a1 a2 true l0_0 l0_1) else (q3.j0 k a1 a2 (decide (a2 ≥ (l0_0.length:Int))) l0_0 l0_1)) else (q3.j0 k a1 a2 true l0_0 l0_1))
set_option maxHeartbeats 8000000 in
set_option maxRecDepth 100000 in
theorem q3.calls (k:Nat) (A0_0:Option Addr) (c0_0:Nat) (l0_0:List Int) (A0_1:Option Addr) (c0_1:Nat) (l0_1:List Int) (a1:Int) (a2:Int) (r:Bool) (w:World) (hr0_0:Kd.C (Kd.int .i64) w A0_0 l0_0.length l0_0) (hc0_0:l0_0.length ≤ c0_0) (hr0_1:Kd.C (Kd.int .i64) w A0_1 l0_1.length l0_1) (hc0_1:l0_1.length ≤ c0_1) (h:q3.f k l0_0 l0_1 a1 a2 = some r) :
  Calls Try.prog 48 #[.agg #[.slice A0_0 l0_0.length c0_0,.slice A0_1 l0_1.length c0_1],.int .i64 a1,.int .i64 a2] w fun e w'=>e = .returned (.bool r) ∧ Below w.heap.size w w':=by
 have hu25:=Try.underlying25
 have HR0_0:=Aside0.mk hr0_0
 have HC0_0:=Aside0.mk hc0_0
 clear hr0_0 hc0_0
 have HR0_1:=Aside0.mk hr0_1
 have HC0_1:=Aside0.mk hc0_1
 clear hr0_1 hc0_1
 have HB:=zk (Below.refl w.heap.size w)
 have H:((q13.f l0_0 l0_1 a1).bind fun t102=>(if t102 = true then (if a2 < (-1) then (q3.j0 k a1 a2 true l0_0 l0_1) else (q3.j0 k a1 a2 (decide (a2 ≥ (l0_0.length:Int))) l0_0 l0_1)) else (q3.j0 k a1 a2 true l0_0 l0_1))) = some r:=h
 clear h
 have HC4:=Aside0.mk H
 clear H
 go_enter Try.func48,Try.ntmps48
 go_upto_region 1 with (first|((with_reducible refine gate_dst (N:=3) rfl ?_);(try (refine gate_guard (by rfl) ?_;dsimp only));refine box_event ?hg (N:=3) ?hd (cs:=#[.slice A0_0 l0_0.length c0_0,.slice A0_1 l0_1.length c0_1]) (t:=25) ?hr ?_;(case hd=>rfl);(case hg=>rfl);(case hr=>first|(go_simp;done)|(go_simp;rfl));intro gb101 hg w5 hbox hb;have n0_:=zk (below_step (bq HB.out) hb);have n1_:=zk (hbox);have n2_:=zk ((by rw [hg];exact (below_size (bq HB.out)):w.heap.size ≤ gb101));have n3_:=zk ((by rw [hg];exact (below_size (bq HB.out)):w.heap.size ≤ gb101));clear HB;have HB:=n0_;have BK101:=n1_;have GW101:=n2_;have GE101:=n3_;clear n0_ n1_ n2_ n3_;clear hb hbox hg))
 (try simp only [Act.put,List.setIfInBounds_toArray,List.set_cons_zero,List.set_cons_succ])
 go_cut [21] (fun v21 wc=>∃ (kq:Nat) (x21_3:Bool),v21 = .bool x21_3 ∧ Aside0 (q3.j0 kq a1 a2 x21_3 l0_0 l0_1 = some r) ∧ Aside0 (kq ≤ k) ∧ Aside0 (wc.heap[gb101]? = some (.cells #[(.slice A0_0 l0_0.length c0_0),(.slice A0_1 l0_1.length c0_1)] 25 (0,0))) ∧ Aside0 (Below w.heap.size w wc))
 case first =>
  have H:=HC4.out
  clear HC4
  replace H:=Option.bind_eq_some_iff.mp H
  obtain ⟨t102,A60,H⟩:=H
  replace H:(if t102 = true then (if a2 < (-1) then (q3.j0 k a1 a2 true l0_0 l0_1) else (q3.j0 k a1 a2 (decide (a2 ≥ (l0_0.length:Int))) l0_0 l0_1)) else (q3.j0 k a1 a2 true l0_0 l0_1)) = some r:=H
  have A6:=Aside0.mk A60
  clear A60
  by_cases c7:t102 = true
  ·subst c7
   have H1:(if a2 < (-1) then (q3.j0 k a1 a2 true l0_0 l0_1) else (q3.j0 k a1 a2 (decide (a2 ≥ (l0_0.length:Int))) l0_0 l0_1)) = some r:=by rw [if_pos rfl] at H;exact H
   clear H
   have H:=H1
   clear H1
   by_cases c8:a2 < (-1)
   ·rw [if_pos c8] at H
    have c8b0:decide (a2 < (-1)) = true:=decide_eq_true c8
    clear c8
    (first|rw [c8b0]|(simp only [i64_w,i32_w];rw [c8b0])|skip)
    have H':=Aside0.mk H
    clear H
    have hcz9_0:w5.cell? ⟨gb101,0,none⟩ = some (.slice A0_0 l0_0.length c0_0):=(blk_cell BK101.out 0).trans rfl
    have hcz9_1:w5.cell? ⟨gb101,1,none⟩ = some (.slice A0_1 l0_1.length c0_1):=(blk_cell BK101.out 1).trans rfl
    have hfz9_0:=blk_frozen BK101.out 0
    have hfz9_1:=blk_frozen BK101.out 1
    go_wp2_with (first|((with_reducible refine gate_callee (f:=54) rfl ?_);refine goesL_ (some 9) rfl rfl Try.func54 (by kernel_rfl) rfl #[.agg #[.slice A0_0 l0_0.length c0_0,.slice A0_1 l0_1.length c0_1],.int .i64 a1] rfl oF ?_;(with_reducible refine (q13.calls _ _ l0_0 _ _ l0_1 a1 true _ ?side1 ?side2 ?side3 ?side4 A6.out).mono ?_);(case side1=>exact cq (Kd.C_below HR0_0.out HB.out));(case side2=>exact HC0_0.out);(case side3=>exact cq (Kd.C_below HR0_1.out HB.out));(case side4=>exact HC0_1.out);rintro e w10 ⟨rfl,hb⟩;refine ⟨_,rfl,?_⟩;have n0_:=zk (blk_below (g:=gb101) (o:=.cells #[.slice A0_0 l0_0.length c0_0,.slice A0_1 l0_1.length c0_1] 25 (0,0)) (hq BK101.out) hb);have n1_:=zk (below_step (bg HB.out GE101 GE101) hb);clear BK101;clear HB;have BK101:=n0_;have HB:=n1_;clear n0_ n1_;(try clear hb);(try clear hb2);(try clear hk);(try clear hi)))
    go_meet
    case rel=>exact ⟨_,(true),oE,H',⟨by first|omega|exact Nat.le_refl _⟩,⟨hq BK101.out⟩,⟨bg HB.out GE101 GE101⟩⟩
   ·rw [if_neg c8] at H
    have c8b0:decide (a2 < (-1)) = false:=decide_eq_false c8
    clear c8
    (first|rw [c8b0]|(simp only [i64_w,i32_w];rw [c8b0])|skip)
    have H':=Aside0.mk H
    clear H
    have hcz11_0:w5.cell? ⟨gb101,0,none⟩ = some (.slice A0_0 l0_0.length c0_0):=(blk_cell BK101.out 0).trans rfl
    have hcz11_1:w5.cell? ⟨gb101,1,none⟩ = some (.slice A0_1 l0_1.length c0_1):=(blk_cell BK101.out 1).trans rfl
    have hfz11_0:=blk_frozen BK101.out 0
    have hfz11_1:=blk_frozen BK101.out 1
    go_wp2_with (first|((with_reducible refine gate_callee (f:=54) rfl ?_);refine goesL_ (some 9) rfl rfl Try.func54 (by kernel_rfl) rfl #[.agg #[.slice A0_0 l0_0.length c0_0,.slice A0_1 l0_1.length c0_1],.int .i64 a1] rfl oF ?_;(with_reducible refine (q13.calls _ _ l0_0 _ _ l0_1 a1 true _ ?side1 ?side2 ?side3 ?side4 A6.out).mono ?_);(case side1=>exact cq (Kd.C_below HR0_0.out HB.out));(case side2=>exact HC0_0.out);(case side3=>exact cq (Kd.C_below HR0_1.out HB.out));(case side4=>exact HC0_1.out);rintro e w12 ⟨rfl,hb⟩;refine ⟨_,rfl,?_⟩;have n0_:=zk (blk_below (g:=gb101) (o:=.cells #[.slice A0_0 l0_0.length c0_0,.slice A0_1 l0_1.length c0_1] 25 (0,0)) (hq BK101.out) hb);have n1_:=zk (below_step (bg HB.out GE101 GE101) hb);clear BK101;clear HB;have BK101:=n0_;have HB:=n1_;clear n0_ n1_;(try clear hb);(try clear hb2);(try clear hk);(try clear hi);have hcz13_0:w12.cell? ⟨gb101,0,none⟩ = some (.slice A0_0 l0_0.length c0_0):=(blk_cell BK101.out 0).trans rfl;have hcz13_1:w12.cell? ⟨gb101,1,none⟩ = some (.slice A0_1 l0_1.length c0_1):=(blk_cell BK101.out 1).trans rfl;have hfz13_0:=blk_frozen BK101.out 0;have hfz13_1:=blk_frozen BK101.out 1))
    go_meet
    case rel=>exact ⟨_,(decide (a2 ≥ (l0_0.length:Int))),oE,H',⟨by first|omega|exact Nat.le_refl _⟩,⟨hq BK101.out⟩,⟨bg HB.out GE101 GE101⟩⟩
  ·replace c7:=Bool.eq_false_iff.mpr c7
   subst c7
   have H1:(q3.j0 k a1 a2 true l0_0 l0_1) = some r:=by rw [if_neg (show ¬ (false = true) by decide)] at H;exact H
   clear H
   have H:=H1
   clear H1
   have H':=Aside0.mk H
   clear H
   have hcz14_0:w5.cell? ⟨gb101,0,none⟩ = some (.slice A0_0 l0_0.length c0_0):=(blk_cell BK101.out 0).trans rfl
   have hcz14_1:w5.cell? ⟨gb101,1,none⟩ = some (.slice A0_1 l0_1.length c0_1):=(blk_cell BK101.out 1).trans rfl
   have hfz14_0:=blk_frozen BK101.out 0
   have hfz14_1:=blk_frozen BK101.out 1
   go_wp2_with (first|((with_reducible refine gate_callee (f:=54) rfl ?_);refine goesL_ (some 9) rfl rfl Try.func54 (by kernel_rfl) rfl #[.agg #[.slice A0_0 l0_0.length c0_0,.slice A0_1 l0_1.length c0_1],.int .i64 a1] rfl oF ?_;(with_reducible refine (q13.calls _ _ l0_0 _ _ l0_1 a1 false _ ?side1 ?side2 ?side3 ?side4 A6.out).mono ?_);(case side1=>exact cq (Kd.C_below HR0_0.out HB.out));(case side2=>exact HC0_0.out);(case side3=>exact cq (Kd.C_below HR0_1.out HB.out));(case side4=>exact HC0_1.out);rintro e w15 ⟨rfl,hb⟩;refine ⟨_,rfl,?_⟩;have n0_:=zk (blk_below (g:=gb101) (o:=.cells #[.slice A0_0 l0_0.length c0_0,.slice A0_1 l0_1.length c0_1] 25 (0,0)) (hq BK101.out) hb);have n1_:=zk (below_step (bg HB.out GE101 GE101) hb);clear BK101;clear HB;have BK101:=n0_;have HB:=n1_;clear n0_ n1_;(try clear hb);(try clear hb2);(try clear hk);(try clear hi)))
   go_meet
   case rel=>exact ⟨_,(true),oE,H',⟨by first|omega|exact Nat.le_refl _⟩,⟨hq BK101.out⟩,⟨bg HB.out GE101 GE101⟩⟩
 case rest =>
  clear HC4
  try clear p2
  try clear c4
  try clear c5
  try clear c7
  try clear c8
  try clear c8b0
  try clear hcz11_0
  try clear hcz11_1
  try clear hcz13_0
  try clear hcz13_1
  try clear hcz14_0
  try clear hcz14_1
  try clear hcz9_0
  try clear hcz9_1
  try clear hfz11_0
  try clear hfz11_1
  try clear hfz13_0
  try clear hfz13_1
  try clear hfz14_0
  try clear hfz14_1
  try clear hfz9_0
  try clear hfz9_1
  obtain ⟨kq,x21_3,rfl,HA,HJ3,BK101,HB⟩:=hcut
  cases kq with
  | zero=>exact absurd HA.out (by simp [q3.j0])
  | succ kj3 =>
   have H:=HA.out
   clear HA
   simp only [q3.j0] at H
   by_cases c16:x21_3 = true
   ·subst c16
    have H1:(some false) = some r:=by rw [if_pos rfl] at H;exact H
    clear H
    have H:=H1
    clear H1
    obtain rfl:=Option.some.inj H
    go_wp2
    go_ret
    exact ⟨by first|rfl|(simp [errW_none,errW_some] <;> rfl)|(simp [*,errW_none,errW_some] <;> rfl),bg HB.out GE101 GE101⟩
   ·replace c16:=Bool.eq_false_iff.mpr c16
    subst c16
    have H1:(q3.l0 kj3 a1 a2 l0_0 l0_1) = some r:=by rw [if_neg (show ¬ (false = true) by decide)] at H;exact H
    clear H
    have H:=H1
    clear H1
    have H':=Aside0.mk H
    clear H
    go_wp2
    go_loopg [1] kj3 (fun kq v1 w'=>∃ (x1_2:Int),v1 = .int .i64 x1_2 ∧ Aside0 (q3.l0 kq x1_2 a2 l0_0 l0_1 = some r) ∧ Aside0 (kq ≤ kj3) ∧ Aside0 (w'.heap[gb101]? = some (.cells #[(.slice A0_0 l0_0.length c0_0),(.slice A0_1 l0_1.length c0_1)] 25 (0,0))) ∧ Aside0 (Below w.heap.size w w'))
    case atStart=>exact ⟨(a1),oE,H',⟨Nat.le_refl _⟩,⟨hq BK101.out⟩,⟨bg HB.out GE101 GE101⟩⟩
    case round =>
     clear H'
     try clear c1
     try clear p2
     try clear c4
     try clear c5
     try clear c7
     try clear c8
     try clear c8b0
     try clear c16
     try clear hcz11_0
     try clear hcz11_1
     try clear hcz13_0
     try clear hcz13_1
     try clear hcz14_0
     try clear hcz14_1
     try clear hcz9_0
     try clear hcz9_1
     try clear hfz11_0
     try clear hfz11_1
     try clear hfz13_0
     try clear hfz13_1
     try clear hfz14_0
     try clear hfz14_1
     try clear hfz9_0
     try clear hfz9_1
     try clear p2
     obtain ⟨x1_2,rfl,HA,HK2,BK101,HB⟩:=hrel
     cases gk with
     | zero=>exact absurd HA.out (by simp [q3.l0])
     | succ k2 =>
      have H:=HA.out
      clear HA
      simp only [q3.l0] at H
      by_cases c17:x1_2 ≥ 0
      ·rw [if_pos c17] at H
       have c17b0:decide (0 ≤ x1_2) = true:=decide_eq_true c17
       clear c17
       by_cases c18:x1_2 = a2
       ·rw [if_pos c18] at H
        have c18b0:(x1_2 == a2) = true:=beq_iff_eq.mpr c18
        have c18b1:(x1_2 != a2) = false:=bne_eq_false_iff_eq.mpr c18
        clear c18
        obtain rfl:=Option.some.inj H
        go_wp2
        go_ret
        exact ⟨by first|rfl|(simp [errW_none,errW_some] <;> rfl)|(simp [*,errW_none,errW_some] <;> rfl),bg HB.out GE101 GE101⟩
       ·rw [if_neg c18] at H
        have c18b0:(x1_2 == a2) = false:=beq_eq_false_iff_ne.mpr c18
        have c18b1:(x1_2 != a2) = true:=bne_iff_ne.mpr c18
        by_cases c19:0 ≤ x1_2
        ·rw [if_pos c19] at H
         have c19b0:decide (0 ≤ x1_2) = true:=decide_eq_true c19
         clear c19
         by_cases c20:x1_2 < (l0_1.length:Int)
         ·rw [if_pos c20] at H
          have c20b0:decide (x1_2 < (l0_1.length:Int)) = true:=decide_eq_true c20
          clear c20
          have H':=Aside0.mk H
          clear H
          have hcz21_0:wr.cell? ⟨gb101,0,none⟩ = some (.slice A0_0 l0_0.length c0_0):=(blk_cell BK101.out 0).trans rfl
          have hcz21_1:wr.cell? ⟨gb101,1,none⟩ = some (.slice A0_1 l0_1.length c0_1):=(blk_cell BK101.out 1).trans rfl
          have hfz21_0:=blk_frozen BK101.out 0
          have hfz21_1:=blk_frozen BK101.out 1
          have p103:0 ≤ (x1_2:Int):=oA
          have q103:x1_2 < (l0_1.length:Int):=oA
          obtain ⟨ad103,e103,hx103_0⟩:=Kd.at_int HR0_1.out x1_2 p103 q103
          cases e103
          replace hx103_0:=(HB.out.cell (World.block_lt_of_cell? w _ hx103_0)).trans hx103_0
          replace p103:=eq_true p103
          replace q103:=eq_true q103
          go_wp2
          go_roundg k2
          case measure=>have:=HJ3.out;have:=HK2.out;omega
          case rel=>exact ⟨(rd l0_1 x1_2),oE,H',⟨by have:=HJ3.out;have:=HK2.out;omega⟩,⟨hq BK101.out⟩,⟨bg HB.out GE101 GE101⟩⟩
         ·rw [if_neg c20] at H
          exact absurd H (by simp)
        ·rw [if_neg c19] at H
         exact absurd H (by simp)
      ·rw [if_neg c17] at H
       have c17b0:decide (0 ≤ x1_2) = false:=decide_eq_false c17
       clear c17
       obtain rfl:=Option.some.inj H
       go_wp2
       go_ret
       exact ⟨by first|rfl|(simp [errW_none,errW_some] <;> rfl)|(simp [*,errW_none,errW_some] <;> rfl),bg HB.out GE101 GE101⟩
mutual
def q21.l0:Nat → List (List Int) → List Int → Int → List Int → List Int → Option (List Int)
 | 0,_,_,_,_,_=>none
 | k + 1,x1,x5,x6,x102000,x102001=>if x6 < (x102000.length:Int) then (q21.j1 k x1 x5 x6 (decide (x6 < (x1.length:Int))) x102000 x102001) else (q21.j1 k x1 x5 x6 false x102000 x102001)
def q21.j1:Nat → List (List Int) → List Int → Int → Bool → List Int → List Int → Option (List Int)
 | 0,_,_,_,_,_,_=>none
 | k + 1,x1,x5,x6,x20,x102000,x102001=>if x20 = true then (if 0 ≤ x6 then (if x6 < (x1.length:Int) then (if ((rd_L2 x1 x6).length:Int) > 0 then (if 0 < ((rd_L2 x1 x6).length:Int) then (q21.j2 k x1 x5 x6 0 ((Int.tmod (rd (rd_L2 x1 x6) 0) 3) != 0) x102000 x102001) else (none)) else (q21.j2 k x1 x5 x6 0 false x102000 x102001)) else (none)) else (none)) else (some x5)
def q21.j2:Nat → List (List Int) → List Int → Int → Int → Bool → List Int → List Int → Option (List Int)
 | 0,_,_,_,_,_,_,_=>none
 | k + 1,x1,x5,x6,x7,x38,x102000,x102001=>if x38 = true then (if 0 ≤ x6 then (if x6 < (x1.length:Int) then ((q16.f k x102000 x102001 (rd_L2 x1 x6)).bind fun t106=>(q21.l1 k x1 x5 x6 x7 t106 (x102000.length:Int) 0 x102000 x102001)) else (none)) else (none)) else (if x5.length < 35184372088832 then (q21.l0 k x1 (x5 ++ [x7]) (wrap64 (x6 + 1)) x102000 x102001) else (none))
def q21.l1:Nat → List (List Int) → List Int → Int → Int → Int → Int → Int → List Int → List Int → Option (List Int)
 | 0,_,_,_,_,_,_,_,_,_=>none
 | k + 1,x1,x5,x6,x7,x8,x47,x48,x102000,x102001=>if x48 < x47 then (if x48 = x6 then (q21.l1 k x1 x5 x6 x7 x8 x47 (wrap64 (x48 + 1)) x102000 x102001) else ((q3.f k x102000 x102001 x48 x6).bind fun t107=>(if t107 = true then (if 0 ≤ (IntKind.u64.wrap (x6)) then (if (Go.bits .and .u32 (shr .u32 x8 (IntKind.u64.wrap (x6))) 1) = 1 then (if 0 ≤ (IntKind.u64.wrap (x48)) then (q21.l1 k x1 x5 x6 (Go.bits .or .u32 x7 (Go.bits .and .u32 x8 (shl .u32 1 (IntKind.u64.wrap (x48))))) x8 x47 (wrap64 (x48 + 1)) x102000 x102001) else (none)) else (q21.l1 k x1 x5 x6 x7 x8 x47 (wrap64 (x48 + 1)) x102000 x102001)) else (none)) else (q21.l1 k x1 x5 x6 x7 x8 x47 (wrap64 (x48 + 1)) x102000 x102001)))) else (if x5.length < 35184372088832 then (q21.l0 k x1 (x5 ++ [x7]) (wrap64 (x6 + 1)) x102000 x102001) else (none))
end
def q21.f (k:Nat) (l0_0:List Int) (l0_1:List Int) (l1:List (List Int)):Option (List Int):=q21.l0 k l1 ([]:List Int) 0 l0_0 l0_1
set_option maxHeartbeats 8000000 in
set_option maxRecDepth 100000 in
theorem q21.calls (k:Nat) (A0_0:Option Addr) (c0_0:Nat) (l0_0:List Int) (A0_1:Option Addr) (c0_1:Nat) (l0_1:List Int) (A1:Option Addr) (c1:Nat) (l1:List (List Int)) (r:List Int) (w:World) (hr0_0:Kd.C (Kd.int .i64) w A0_0 l0_0.length l0_0) (hc0_0:l0_0.length ≤ c0_0) (hr0_1:Kd.C (Kd.int .i64) w A0_1 l0_1.length l0_1) (hc0_1:l0_1.length ≤ c0_1) (hr1:Kd.C (Kd.slice 3 (Kd.int .i64)) w A1 l1.length l1) (hc1:l1.length ≤ c1) (h:q21.f k l0_0 l0_1 l1 = some r) :
  Calls Try.prog 22 #[.agg #[.slice A0_0 l0_0.length c0_0,.slice A0_1 l0_1.length c0_1],.slice A1 l1.length c1] w fun e w'=>∃ v0_:Value,e = .returned (v0_) ∧ Kd.R (Kd.int .u32) 29 w' w.heap.size (fun _=>True) v0_ r ∧ Below w.heap.size w w':=by
 have hu25:=Try.underlying25
 have HR0_0:=Aside0.mk hr0_0
 have HC0_0:=Aside0.mk hc0_0
 clear hr0_0 hc0_0
 have HR0_1:=Aside0.mk hr0_1
 have HC0_1:=Aside0.mk hc0_1
 clear hr0_1 hc0_1
 have HR1:=Aside0.mk hr1
 have HC1:=Aside0.mk hc1
 clear hr1 hc1
 have HB:=zk (Below.refl w.heap.size w)
 have H:(q21.l0 k l1 ([]:List Int) 0 l0_0 l0_1) = some r:=h
 clear h
 have H':=Aside0.mk H
 clear H
 go_enter Try.func22,Try.ntmps22
 go_wp2_with (first|((with_reducible refine gate_dst (N:=2) rfl ?_);(try (refine gate_guard (by rfl) ?_;dsimp only));refine box_event ?hg (N:=2) ?hd (cs:=#[.slice A0_0 l0_0.length c0_0,.slice A0_1 l0_1.length c0_1]) (t:=25) ?hr ?_;(case hd=>rfl);(case hg=>rfl);(case hr=>first|(go_simp;done)|(go_simp;rfl));intro gb101 hg w3 hbox hb;have n0_:=zk (below_step (bq HB.out) hb);have n1_:=zk (hbox);have n2_:=zk ((by rw [hg];exact (below_size (bq HB.out)):w.heap.size ≤ gb101));have n3_:=zk ((by rw [hg];exact (below_size (bq HB.out)):w.heap.size ≤ gb101));clear HB;have HB:=n0_;have BK101:=n1_;have GW101:=n2_;have GE101:=n3_;clear n0_ n1_ n2_ n3_;clear hb hbox hg))
 go_loopg [5,6] k (fun kq v5 v6 w'=>∃ (x5_1:List Int) (x6_1:Int),v6 = .int .i64 x6_1 ∧ Aside0 (q21.l0 kq l1 x5_1 x6_1 l0_0 l0_1 = some r) ∧ Aside0 (kq ≤ k) ∧ Aside0 (Kd.R (Kd.int .u32) 29 w' w.heap.size (fun _=>True) v5 x5_1) ∧ Aside0 (w'.heap[gb101]? = some (.cells #[(.slice A0_0 l0_0.length c0_0),(.slice A0_1 l0_1.length c0_1)] 25 (0,0))) ∧ Aside0 (Below w.heap.size w w'))
 case atStart=>exact ⟨(([]:List Int)),(0),oE,H',⟨Nat.le_refl _⟩,⟨by first|exact Kd.R_nil _ _ _ _ _|exact Kd.N_nil _ _ _ _ _|exact Kd.V_nil _ _ _ _ _|exact Kd.Q_nil _ _ _ _ _|exact Kd.S_nil _ _ _ _ _⟩,⟨hq BK101.out⟩,⟨bg HB.out GE101 GE101⟩⟩
 case round =>
  clear H'
  try clear c1
  try clear c2
  try clear p2
  obtain ⟨x5_1,x6_1,rfl,HA,HK1,HO_5,BK101,HB⟩:=hrel
  cases gk with
  | zero=>exact absurd HA.out (by simp [q21.l0])
  | succ k1 =>
   have H:=HA.out
   clear HA
   simp only [q21.l0] at H
   have HC4:=Aside0.mk H
   clear H
   go_upto_region 3 with (fail)
   go_cut [20] (fun v20 wc=>∃ (kq:Nat) (x20_3:Bool),v20 = .bool x20_3 ∧ Aside0 (q21.j1 kq l1 x5_1 x6_1 x20_3 l0_0 l0_1 = some r) ∧ Aside0 (kq ≤ k1) ∧ Aside0 (Kd.R (Kd.int .u32) 29 wc w.heap.size (fun _=>True) u5 x5_1) ∧ Aside0 (wc.heap[gb101]? = some (.cells #[(.slice A0_0 l0_0.length c0_0),(.slice A0_1 l0_1.length c0_1)] 25 (0,0))) ∧ Aside0 (Below w.heap.size w wc))
   case first =>
    have H:=HC4.out
    clear HC4
    by_cases c5:x6_1 < (l0_0.length:Int)
    ·rw [if_pos c5] at H
     have c5b0:decide (x6_1 < (l0_0.length:Int)) = true:=decide_eq_true c5
     clear c5
     (first|rw [c5b0]|(simp only [i64_w,i32_w];rw [c5b0])|skip)
     have H':=Aside0.mk H
     clear H
     have hcz6_0:wr.cell? ⟨gb101,0,none⟩ = some (.slice A0_0 l0_0.length c0_0):=(blk_cell BK101.out 0).trans rfl
     have hcz6_1:wr.cell? ⟨gb101,1,none⟩ = some (.slice A0_1 l0_1.length c0_1):=(blk_cell BK101.out 1).trans rfl
     have hfz6_0:=blk_frozen BK101.out 0
     have hfz6_1:=blk_frozen BK101.out 1
     go_wp2
     go_meet
     case rel=>exact ⟨_,(decide (x6_1 < (l1.length:Int))),oE,H',⟨by have:=HK1.out;first|omega|exact Nat.le_refl _⟩,⟨rq HO_5.out⟩,⟨hq BK101.out⟩,⟨bg HB.out GE101 GE101⟩⟩
    ·rw [if_neg c5] at H
     have c5b0:decide (x6_1 < (l0_0.length:Int)) = false:=decide_eq_false c5
     clear c5
     (first|rw [c5b0]|(simp only [i64_w,i32_w];rw [c5b0])|skip)
     have H':=Aside0.mk H
     clear H
     have hcz7_0:wr.cell? ⟨gb101,0,none⟩ = some (.slice A0_0 l0_0.length c0_0):=(blk_cell BK101.out 0).trans rfl
     have hcz7_1:wr.cell? ⟨gb101,1,none⟩ = some (.slice A0_1 l0_1.length c0_1):=(blk_cell BK101.out 1).trans rfl
     have hfz7_0:=blk_frozen BK101.out 0
     have hfz7_1:=blk_frozen BK101.out 1
     go_wp2
     go_meet
     case rel=>exact ⟨_,(false),oE,H',⟨by have:=HK1.out;first|omega|exact Nat.le_refl _⟩,⟨rq HO_5.out⟩,⟨hq BK101.out⟩,⟨bg HB.out GE101 GE101⟩⟩
   case rest =>
    clear HC4
    try clear c1
    try clear c2
    try clear p2
    try clear c5
    try clear c5b0
    try clear hcz6_0
    try clear hcz6_1
    try clear hcz7_0
    try clear hcz7_1
    try clear hfz6_0
    try clear hfz6_1
    try clear hfz7_0
    try clear hfz7_1
    try clear p2
    obtain ⟨kq,x20_3,rfl,HA,HJ3,HO_5,BK101,HB⟩:=hcut
    cases kq with
    | zero=>exact absurd HA.out (by simp [q21.j1])
    | succ kj3 =>
     have H:=HA.out
     clear HA
     simp only [q21.j1] at H
     by_cases c8:x20_3 = true
     ·subst c8
      have H1:(if 0 ≤ x6_1 then (if x6_1 < (l1.length:Int) then (if ((rd_L2 l1 x6_1).length:Int) > 0 then (if 0 < ((rd_L2 l1 x6_1).length:Int) then (q21.j2 kj3 l1 x5_1 x6_1 0 ((Int.tmod (rd (rd_L2 l1 x6_1) 0) 3) != 0) l0_0 l0_1) else (none)) else (q21.j2 kj3 l1 x5_1 x6_1 0 false l0_0 l0_1)) else (none)) else (none)) = some r:=by rw [if_pos rfl] at H;exact H
      clear H
      have H:=H1
      clear H1
      have HC9:=Aside0.mk H
      clear H
      go_upto_region 6 with (fail)
      go_cut [38] (fun v38 wc=>∃ (kq:Nat) (x38_8:Bool),v38 = .bool x38_8 ∧ Aside0 (q21.j2 kq l1 x5_1 x6_1 0 x38_8 l0_0 l0_1 = some r) ∧ Aside0 (kq ≤ kj3) ∧ Aside0 (Kd.R (Kd.int .u32) 29 wc w.heap.size (fun _=>True) u5 x5_1) ∧ Aside0 (wc.heap[gb101]? = some (.cells #[(.slice A0_0 l0_0.length c0_0),(.slice A0_1 l0_1.length c0_1)] 25 (0,0))) ∧ Aside0 (Below w.heap.size w wc))
      case first =>
       have H:=HC9.out
       clear HC9
       by_cases c10:0 ≤ x6_1
       ·rw [if_pos c10] at H
        have c10b0:decide (0 ≤ x6_1) = true:=decide_eq_true c10
        clear c10
        (first|rw [c10b0]|(simp only [i64_w,i32_w];rw [c10b0])|skip)
        by_cases c11:x6_1 < (l1.length:Int)
        ·rw [if_pos c11] at H
         have c11b0:decide (x6_1 < (l1.length:Int)) = true:=decide_eq_true c11
         clear c11
         by_cases c12:((rd_L2 l1 x6_1).length:Int) > 0
         ·rw [if_pos c12] at H
          have c12b0:decide (0 < ((rd_L2 l1 x6_1).length:Int)) = true:=decide_eq_true c12
          have c12b1:decide (0 < (rd_L2 l1 x6_1).length) = true:=decide_eq_true (by omega)
          clear c12
          by_cases c13:0 < ((rd_L2 l1 x6_1).length:Int)
          ·rw [if_pos c13] at H
           have c13b0:decide (0 < ((rd_L2 l1 x6_1).length:Int)) = true:=decide_eq_true c13
           have c13b1:decide (0 < (rd_L2 l1 x6_1).length) = true:=decide_eq_true (by omega)
           clear c13
           have H':=Aside0.mk H
           clear H
           have p102:0 ≤ (x6_1:Int):=oA
           have q102:x6_1 < (l1.length:Int):=oA
           obtain ⟨ad102,A102_0,c102_0,e102,hx102_0,hl102_0,hi102_0⟩:=at_L2 HR1.out x6_1 p102 q102
           cases e102
           replace hx102_0:=(HB.out.cell (World.block_lt_of_cell? w _ hx102_0)).trans hx102_0
           have HR102_0:=Aside0.mk hi102_0
           have HC102_0:=Aside0.mk hl102_0
           clear hi102_0 hl102_0
           replace p102:=eq_true p102
           replace q102:=eq_true q102
           have p103:0 ≤ (x6_1:Int):=oA
           have q103:x6_1 < (l1.length:Int):=oA
           obtain ⟨ad103,A103_0,c103_0,e103,hx103_0,hl103_0,hi103_0⟩:=at_L2 HR1.out x6_1 p103 q103
           obtain rfl:ad102 = ad103:=(by injection e103)
           replace hx103_0:=(HB.out.cell (World.block_lt_of_cell? w _ hx103_0)).trans hx103_0
           have HR103_0:=Aside0.mk hi103_0
           have HC103_0:=Aside0.mk hl103_0
           clear hi103_0 hl103_0
           replace p103:=eq_true p103
           replace q103:=eq_true q103
           have ea_:=Option.some.inj (hx102_0.symm.trans hx103_0)
           injection ea_ with ea_ en_ ec_
           subst ea_
           subst ec_
           clear en_
           have p104:0 ≤ (0:Int):=(by omega)
           have q104:0 < ((rd_L2 l1 x6_1).length:Int):=oA
           obtain ⟨ad104,e104,hx104_0⟩:=Kd.at_int HR103_0.out 0 p104 q104
           cases e104
           have qi104:(0 < (rd_L2 l1 x6_1).length) = True:=eq_true (by omega)
           (try rw [show ((0:Int)).toNat = 0 from rfl] at hx104_0)
           (try rw [Addr.add_zero'] at hx104_0)
           replace hx104_0:=(HB.out.cell (World.block_lt_of_cell? w _ hx104_0)).trans hx104_0
           replace p104:=eq_true p104
           replace q104:=eq_true q104
           go_wp2
           go_meet
           case rel=>exact ⟨_,(((Int.tmod (rd (rd_L2 l1 x6_1) 0) 3) != 0)),oE,H',⟨by have:=HK1.out;have:=HJ3.out;first|omega|exact Nat.le_refl _⟩,⟨rq HO_5.out⟩,⟨hq BK101.out⟩,⟨bg HB.out GE101 GE101⟩⟩
          ·rw [if_neg c13] at H
           exact absurd H (by simp)
         ·rw [if_neg c12] at H
          have c12b0:decide (0 < ((rd_L2 l1 x6_1).length:Int)) = false:=decide_eq_false c12
          have c12b1:decide (0 < (rd_L2 l1 x6_1).length) = false:=decide_eq_false (by omega)
          clear c12
          have H':=Aside0.mk H
          clear H
          have p102:0 ≤ (x6_1:Int):=oA
          have q102:x6_1 < (l1.length:Int):=oA
          obtain ⟨ad102,A102_0,c102_0,e102,hx102_0,hl102_0,hi102_0⟩:=at_L2 HR1.out x6_1 p102 q102
          cases e102
          replace hx102_0:=(HB.out.cell (World.block_lt_of_cell? w _ hx102_0)).trans hx102_0
          have HR102_0:=Aside0.mk hi102_0
          have HC102_0:=Aside0.mk hl102_0
          clear hi102_0 hl102_0
          replace p102:=eq_true p102
          replace q102:=eq_true q102
          go_wp2
          go_meet
          case rel=>exact ⟨_,(false),oE,H',⟨by have:=HK1.out;have:=HJ3.out;first|omega|exact Nat.le_refl _⟩,⟨rq HO_5.out⟩,⟨hq BK101.out⟩,⟨bg HB.out GE101 GE101⟩⟩
        ·rw [if_neg c11] at H
         exact absurd H (by simp)
       ·rw [if_neg c10] at H
        exact absurd H (by simp)
      case rest =>
       clear HC9
       try clear c1
       try clear p1
       try clear q1
       try clear hx1
       try clear qi1
       try clear c2
       try clear p2
       try clear c5
       try clear c5b0
       try clear c8
       try clear c10
       try clear c10b0
       try clear p10
       try clear q10
       try clear hx10
       try clear qi10
       try clear c11
       try clear c11b0
       try clear c12
       try clear c12b0
       try clear c12b1
       try clear c13
       try clear c13b0
       try clear c13b1
       try clear hcz6_0
       try clear hcz6_1
       try clear hcz7_0
       try clear hcz7_1
       try clear hfz6_0
       try clear hfz6_1
       try clear hfz7_0
       try clear hfz7_1
       try clear hx102_0
       try clear hx103_0
       try clear hx104_0
       try clear p102
       try clear p103
       try clear p104
       try clear p2
       try clear q102
       try clear q103
       try clear q104
       obtain ⟨kq,x38_8,rfl,HA,HJ8,HO_5,BK101,HB⟩:=hcut
       cases kq with
       | zero=>exact absurd HA.out (by simp [q21.j2])
       | succ kj8 =>
        have H:=HA.out
        clear HA
        simp only [q21.j2] at H
        by_cases c14:x38_8 = true
        ·subst c14
         have H1:(if 0 ≤ x6_1 then (if x6_1 < (l1.length:Int) then ((q16.f kj8 l0_0 l0_1 (rd_L2 l1 x6_1)).bind fun t106=>(q21.l1 kj8 l1 x5_1 x6_1 0 t106 (l0_0.length:Int) 0 l0_0 l0_1)) else (none)) else (none)) = some r:=by rw [if_pos rfl] at H;exact H
         clear H
         have H:=H1
         clear H1
         by_cases c15:0 ≤ x6_1
         ·rw [if_pos c15] at H
          have c15b0:decide (0 ≤ x6_1) = true:=decide_eq_true c15
          clear c15
          by_cases c16:x6_1 < (l1.length:Int)
          ·rw [if_pos c16] at H
           have c16b0:decide (x6_1 < (l1.length:Int)) = true:=decide_eq_true c16
           clear c16
           replace H:=Option.bind_eq_some_iff.mp H
           obtain ⟨t106,A170,H⟩:=H
           replace H:(q21.l1 kj8 l1 x5_1 x6_1 0 t106 (l0_0.length:Int) 0 l0_0 l0_1) = some r:=H
           have A17:=Aside0.mk A170
           clear A170
           have H':=Aside0.mk H
           clear H
           try go_wp2
           have n0_:=zk (Kd.R_drew HO_5.out)
           have n1_:=zk (blk_drew BK101.out)
           have n2_:=zk (below_drew1 HB.out)
           clear HO_5
           clear BK101
           clear HB
           have HO_5:=n0_
           have BK101:=n1_
           have HB:=n2_
           clear n0_ n1_ n2_
           have p105:0 ≤ (x6_1:Int):=oA
           have q105:x6_1 < (l1.length:Int):=oA
           obtain ⟨ad105,A105_0,c105_0,e105,hx105_0,hl105_0,hi105_0⟩:=at_L2 HR1.out x6_1 p105 q105
           have hw105_0:=hx105_0
           cases e105
           replace hx105_0:=(HB.out.cell (World.block_lt_of_cell? w _ hx105_0)).trans hx105_0
           have HR105_0:=Aside0.mk hi105_0
           have HC105_0:=Aside0.mk hl105_0
           clear hi105_0 hl105_0
           replace p105:=eq_true p105
           replace q105:=eq_true q105
           refine start_ (n:=7) (S:=fun w'=>w'.cell? ⟨gb101,0,none⟩ = some (.slice A0_0 l0_0.length c0_0) ∧ w'.cell? ⟨gb101,1,none⟩ = some (.slice A0_1 l0_1.length c0_1) ∧ w'.cell? (ad105.add (x6_1).toNat) = some (.slice A105_0 (rd_L2 l1 x6_1).length c105_0)) (ds:=[]) #[false,false,false,false,false,false,false] (by kernel_rfl) rfl rfl ⟨(blk_cell BK101.out 0).trans rfl,(blk_cell BK101.out 1).trans rfl,((HB.out.cell (World.block_lt_of_cell? w _ hw105_0)).trans hw105_0)⟩ (fun hHeld=>?_)
           generalize wc.drew = w18 at HO_5 BK101 HB HR105_0 hx105_0 hHeld ⊢
           refine pure_ (i:=1) (N:=some 40) (v:=?_) (a':=?_) #[false,true,false,false,false,false,false] rfl rfl (by kernel_rfl) (fun _ _ _ h=>h) (Or.inl ⟨by rfl,?_⟩) ?_ ?_
           rotate_left
           ·intro w'
            go_simp
            with_reducible rfl
           rotate_left
           ·simp only [Act.put,List.setIfInBounds_toArray,List.set_cons_zero,List.set_cons_succ,i64_w,i32_w]
            rfl
           refine pure_ (i:=2) (N:=some 41) (v:=?_) (a':=?_) #[false,true,true,false,false,false,false] rfl rfl (by kernel_rfl) (fun _ _ _ h=>h) (Or.inl ⟨by rfl,?_⟩) ?_ ?_
           rotate_left
           ·intro w'
            go_simp
            with_reducible rfl
           rotate_left
           ·simp only [Act.put,List.setIfInBounds_toArray,List.set_cons_zero,List.set_cons_succ,i64_w,i32_w]
            rfl
           refine pure_ (i:=3) (N:=some 42) (v:=?_) (a':=?_) #[false,true,true,true,false,false,false] rfl rfl (by kernel_rfl) (fun _ _ _ h=>h) (Or.inl ⟨by rfl,?_⟩) ?_ ?_
           rotate_left
           ·intro w'
            go_simp
            with_reducible rfl
           rotate_left
           ·simp only [Act.put,List.setIfInBounds_toArray,List.set_cons_zero,List.set_cons_succ,i64_w,i32_w]
            rfl
           refine take_ (i:=0) (N:=some 39) (v:=?_) (a':=?_) #[true,true,true,true,false,false,false] rfl rfl (by kernel_rfl) (fun _ _ _ h=>h) (Or.inl ⟨by rfl,?_⟩) hHeld ?_ ?_
           rotate_left
           ·rintro w' ⟨s0,s1,s2⟩
            go_simp
            with_reducible rfl
           rotate_left
           ·simp only [Act.put,List.setIfInBounds_toArray,List.set_cons_zero,List.set_cons_succ,i64_w,i32_w]
            rfl
           refine take_ (i:=4) (N:=some 43) (v:=?_) (a':=?_) #[true,true,true,true,true,false,false] rfl rfl (by kernel_rfl) (fun _ _ _ h=>h) (Or.inl ⟨by rfl,?_⟩) hHeld ?_ ?_
           rotate_left
           ·rintro w' ⟨s0,s1,s2⟩
            go_simp
            with_reducible rfl
           rotate_left
           ·simp only [Act.put,List.setIfInBounds_toArray,List.set_cons_zero,List.set_cons_succ,i64_w,i32_w]
            rfl
           refine one_ (i:=5) (N:=some 44) #[true,true,true,true,true,true,false] rfl rfl (by kernel_rfl) (by decide) (fun K hK=>?_)
           refine goes_ Try.func18 (by kernel_rfl) rfl #[.agg #[.slice A0_0 l0_0.length c0_0,.slice A0_1 l0_1.length c0_1],.slice A105_0 (rd_L2 l1 x6_1).length c105_0] (by rfl) rfl rfl oF ?_
           with_reducible refine (q16.calls kj8 _ _ l0_0 _ _ l0_1 _ _ (rd_L2 l1 x6_1) t106 _ ?side1 ?side2 ?side3 ?side4 ?side5 ?side6 A17.out).mono ?_
           (case side1=>exact cq (Kd.C_below HR0_0.out HB.out))
           (case side2=>exact HC0_0.out)
           (case side3=>exact cq (Kd.C_below HR0_1.out HB.out))
           (case side4=>exact HC0_1.out)
           (case side5=>exact cq (Kd.C_below HR105_0.out HB.out))
           (case side6=>exact HC105_0.out)
           rintro e w19 ⟨rfl,hb⟩
           refine ⟨_,rfl,?_⟩
           have n0_:=zk (Kd.R_below (rq HO_5.out) hb)
           have n1_:=zk (blk_below (g:=gb101) (o:=.cells #[.slice A0_0 l0_0.length c0_0,.slice A0_1 l0_1.length c0_1] 25 (0,0)) (hq BK101.out) hb)
           have n2_:=zk (below_step (bg HB.out GE101 GE101) hb)
           clear HO_5
           clear BK101
           clear HB
           have HO_5:=n0_
           have BK101:=n1_
           have HB:=n2_
           clear n0_ n1_ n2_
           (try clear hb)
           (try clear hb2)
           (try clear hk)
           (try clear hi)
           refine hK.out _ _ ⟨(blk_cell BK101.out 0).trans rfl,(blk_cell BK101.out 1).trans rfl,((HB.out.cell (World.block_lt_of_cell? w _ hw105_0)).trans hw105_0)⟩ (fun hHeld=>?_)
           clear hK K
           refine norm_ (a':=?_) ?_ ?_
           rotate_left
           ·show Act.put _ (some 44) _ = _
            simp only [Act.put,List.setIfInBounds_toArray,List.set_cons_zero,List.set_cons_succ,i64_w,i32_w]
            rfl
           refine pure_ (i:=6) (N:=some 8) (v:=?_) (a':=?_) #[true,true,true,true,true,true,true] rfl rfl (by kernel_rfl) (fun _ _ _ h=>h) (Or.inl ⟨by rfl,?_⟩) ?_ ?_
           rotate_left
           ·intro w'
            go_simp
            with_reducible rfl
           rotate_left
           ·simp only [Act.put,List.setIfInBounds_toArray,List.set_cons_zero,List.set_cons_succ,i64_w,i32_w]
            rfl
           refine done_ (by kernel_rfl) ?_
           have hcz20_0:w19.cell? ⟨gb101,0,none⟩ = some (.slice A0_0 l0_0.length c0_0):=(blk_cell BK101.out 0).trans rfl
           have hcz20_1:w19.cell? ⟨gb101,1,none⟩ = some (.slice A0_1 l0_1.length c0_1):=(blk_cell BK101.out 1).trans rfl
           have hfz20_0:=blk_frozen BK101.out 0
           have hfz20_1:=blk_frozen BK101.out 1
           try go_wp2
           go_loopg [7,48] kj8 (fun kq v7 v48 w'=>∃ (x7_4:Int) (x48_4:Int),v7 = .int .u32 x7_4 ∧ v48 = .int .i64 x48_4 ∧ Aside0 (q21.l1 kq l1 x5_1 x6_1 x7_4 t106 (l0_0.length:Int) x48_4 l0_0 l0_1 = some r) ∧ Aside0 (kq ≤ kj8) ∧ Aside0 (Kd.R (Kd.int .u32) 29 w' w.heap.size (fun _=>True) u5 x5_1) ∧ Aside0 (w'.heap[gb101]? = some (.cells #[(.slice A0_0 l0_0.length c0_0),(.slice A0_1 l0_1.length c0_1)] 25 (0,0))) ∧ Aside0 (Below w.heap.size w w'))
           case atStart=>exact ⟨(0),(0),oE,oE,H',⟨Nat.le_refl _⟩,⟨rq HO_5.out⟩,⟨hq BK101.out⟩,⟨bg HB.out GE101 GE101⟩⟩
           case round =>
            clear H'
            try clear c1
            try clear p1
            try clear q1
            try clear hx1
            try clear qi1
            try clear c2
            try clear p2
            try clear c5
            try clear c5b0
            try clear c8
            try clear c10
            try clear c10b0
            try clear p10
            try clear q10
            try clear hx10
            try clear qi10
            try clear c11
            try clear c11b0
            try clear c12
            try clear c12b0
            try clear c12b1
            try clear c13
            try clear c13b0
            try clear c13b1
            try clear c14
            try clear c15
            try clear c15b0
            try clear c16
            try clear c16b0
            try clear c18
            try clear hcz20_0
            try clear hcz20_1
            try clear hcz6_0
            try clear hcz6_1
            try clear hcz7_0
            try clear hcz7_1
            try clear hfz20_0
            try clear hfz20_1
            try clear hfz6_0
            try clear hfz6_1
            try clear hfz7_0
            try clear hfz7_1
            try clear hx102_0
            try clear hx103_0
            try clear hx104_0
            try clear hx105_0
            try clear p1
            try clear p10
            try clear p102
            try clear p103
            try clear p104
            try clear p105
            try clear p2
            try clear q1
            try clear q10
            try clear q102
            try clear q103
            try clear q104
            try clear q105
            obtain ⟨x7_4,x48_4,rfl,rfl,HA,HK4,HO_5,BK101,HB⟩:=hrel
            cases gk with
            | zero=>exact absurd HA.out (by simp [q21.l1])
            | succ k4 =>
             have H:=HA.out
             clear HA
             simp only [q21.l1] at H
             by_cases c21:x48_4 < (l0_0.length:Int)
             ·rw [if_pos c21] at H
              have c21b0:decide (x48_4 < (l0_0.length:Int)) = true:=decide_eq_true c21
              clear c21
              by_cases c22:x48_4 = x6_1
              ·rw [if_pos c22] at H
               have c22b0:(x48_4 == x6_1) = true:=beq_iff_eq.mpr c22
               have c22b1:(x48_4 != x6_1) = false:=bne_eq_false_iff_eq.mpr c22
               clear c22
               have H':=Aside0.mk H
               clear H
               go_wp2
               go_roundg k4
               case measure=>have:=HK1.out;have:=HJ3.out;have:=HJ8.out;have:=HK4.out;omega
               case rel=>exact ⟨(x7_4),(wrap64 (x48_4 + 1)),oE,oE,H',⟨by have:=HK1.out;have:=HJ3.out;have:=HJ8.out;have:=HK4.out;omega⟩,⟨rq HO_5.out⟩,⟨hq BK101.out⟩,⟨bg HB.out GE101 GE101⟩⟩
              ·rw [if_neg c22] at H
               have c22b0:(x48_4 == x6_1) = false:=beq_eq_false_iff_ne.mpr c22
               have c22b1:(x48_4 != x6_1) = true:=bne_iff_ne.mpr c22
               replace H:=Option.bind_eq_some_iff.mp H
               obtain ⟨t107,A230,H⟩:=H
               replace H:(if t107 = true then (if 0 ≤ (IntKind.u64.wrap (x6_1)) then (if (Go.bits .and .u32 (shr .u32 t106 (IntKind.u64.wrap (x6_1))) 1) = 1 then (if 0 ≤ (IntKind.u64.wrap (x48_4)) then (q21.l1 k4 l1 x5_1 x6_1 (Go.bits .or .u32 x7_4 (Go.bits .and .u32 t106 (shl .u32 1 (IntKind.u64.wrap (x48_4))))) t106 (l0_0.length:Int) (wrap64 (x48_4 + 1)) l0_0 l0_1) else (none)) else (q21.l1 k4 l1 x5_1 x6_1 x7_4 t106 (l0_0.length:Int) (wrap64 (x48_4 + 1)) l0_0 l0_1)) else (none)) else (q21.l1 k4 l1 x5_1 x6_1 x7_4 t106 (l0_0.length:Int) (wrap64 (x48_4 + 1)) l0_0 l0_1)) = some r:=H
               have A23:=Aside0.mk A230
               clear A230
               by_cases c24:t107 = true
               ·subst c24
                have H1:(if 0 ≤ (IntKind.u64.wrap (x6_1)) then (if (Go.bits .and .u32 (shr .u32 t106 (IntKind.u64.wrap (x6_1))) 1) = 1 then (if 0 ≤ (IntKind.u64.wrap (x48_4)) then (q21.l1 k4 l1 x5_1 x6_1 (Go.bits .or .u32 x7_4 (Go.bits .and .u32 t106 (shl .u32 1 (IntKind.u64.wrap (x48_4))))) t106 (l0_0.length:Int) (wrap64 (x48_4 + 1)) l0_0 l0_1) else (none)) else (q21.l1 k4 l1 x5_1 x6_1 x7_4 t106 (l0_0.length:Int) (wrap64 (x48_4 + 1)) l0_0 l0_1)) else (none)) = some r:=by rw [if_pos rfl] at H;exact H
                clear H
                have H:=H1
                clear H1
                obtain ⟨ji25,hji25⟩:∃ j_:Int,(IntKind.u64.wrap (x6_1)) = j_:=⟨_,rfl⟩
                replace H:(if 0 ≤ (ji25) then (if (Go.bits .and .u32 (shr .u32 t106 (ji25)) 1) = 1 then (if 0 ≤ (IntKind.u64.wrap (x48_4)) then (q21.l1 k4 l1 x5_1 x6_1 (Go.bits .or .u32 x7_4 (Go.bits .and .u32 t106 (shl .u32 1 (IntKind.u64.wrap (x48_4))))) t106 (l0_0.length:Int) (wrap64 (x48_4 + 1)) l0_0 l0_1) else (none)) else (q21.l1 k4 l1 x5_1 x6_1 x7_4 t106 (l0_0.length:Int) (wrap64 (x48_4 + 1)) l0_0 l0_1)) else (none)) = some r:=by first|(rw [hji25] at H;exact H)|(simp only [hji25] at H ⊢;exact H)
                (try rw [hji25] at A23)
                by_cases c26:0 ≤ (ji25)
                ·rw [if_pos c26] at H
                 have c26b0:=eq_true c26
                 have c26b1:decide (0 ≤ (ji25)) = true:=decide_eq_true c26
                 clear c26
                 obtain ⟨ji27,hji27⟩:∃ j_:Int,(shr .u32 t106 (ji25)) = j_:=⟨_,rfl⟩
                 replace H:(if (Go.bits .and .u32 (ji27) 1) = 1 then (if 0 ≤ (IntKind.u64.wrap (x48_4)) then (q21.l1 k4 l1 x5_1 x6_1 (Go.bits .or .u32 x7_4 (Go.bits .and .u32 t106 (shl .u32 1 (IntKind.u64.wrap (x48_4))))) t106 (l0_0.length:Int) (wrap64 (x48_4 + 1)) l0_0 l0_1) else (none)) else (q21.l1 k4 l1 x5_1 x6_1 x7_4 t106 (l0_0.length:Int) (wrap64 (x48_4 + 1)) l0_0 l0_1)) = some r:=by first|(rw [hji27] at H;exact H)|(simp only [hji27] at H ⊢;exact H)
                 (try rw [hji27] at A23)
                 have hji27_:(t106 / 2 ^ min (ji25).toNat 32) = ji27:=hji27
                 have hji27z:(ji25) ≤ 32 → (t106 / 2 ^ (ji25).toNat) = ji27:=shr_small hji27
                 by_cases c28:(Go.bits .and .u32 (ji27) 1) = 1
                 ·rw [if_pos c28] at H
                  have c28b0:((Go.bits .and .u32 (ji27) 1) == 1) = true:=beq_iff_eq.mpr c28
                  have c28b1:((Go.bits .and .u32 (ji27) 1) != 1) = false:=bne_eq_false_iff_eq.mpr c28
                  clear c28
                  obtain ⟨ji29,hji29⟩:∃ j_:Int,(IntKind.u64.wrap (x48_4)) = j_:=⟨_,rfl⟩
                  replace H:(if 0 ≤ (ji29) then (q21.l1 k4 l1 x5_1 x6_1 (Go.bits .or .u32 x7_4 (Go.bits .and .u32 t106 (shl .u32 1 (ji29)))) t106 (l0_0.length:Int) (wrap64 (x48_4 + 1)) l0_0 l0_1) else (none)) = some r:=by first|(rw [hji29] at H;exact H)|(simp only [hji29] at H ⊢;exact H)
                  (try rw [hji29] at A23)
                  by_cases c30:0 ≤ (ji29)
                  ·rw [if_pos c30] at H
                   have c30b0:=eq_true c30
                   have c30b1:decide (0 ≤ (ji29)) = true:=decide_eq_true c30
                   clear c30
                   obtain ⟨ji31,hji31⟩:∃ j_:Int,(shl .u32 1 (ji29)) = j_:=⟨_,rfl⟩
                   replace H:(q21.l1 k4 l1 x5_1 x6_1 (Go.bits .or .u32 x7_4 (Go.bits .and .u32 t106 (ji31))) t106 (l0_0.length:Int) (wrap64 (x48_4 + 1)) l0_0 l0_1) = some r:=by first|(rw [hji31] at H;exact H)|(simp only [hji31] at H ⊢;exact H)
                   (try rw [hji31] at A23)
                   have hji31_:(IntKind.u32.wrap (1 * 2 ^ min (ji29).toNat 32)) = ji31:=hji31
                   have hji31z:(ji29) ≤ 32 → (IntKind.u32.wrap (1 * 2 ^ (ji29).toNat)) = ji31:=shl_small hji31
                   have hji31u:(IntKind.u32.wrap (2 ^ min (ji29).toNat 32)) = ji31:=by have h_:=hji31_;rw [Int.one_mul] at h_;exact h_
                   have hji31v:(ji29) ≤ 32 → (IntKind.u32.wrap (2 ^ (ji29).toNat)) = ji31:=fun hle_=>by have h_:=hji31z hle_;rw [Int.one_mul] at h_;exact h_
                   have H':=Aside0.mk H
                   clear H
                   have hcz32_0:wr.cell? ⟨gb101,0,none⟩ = some (.slice A0_0 l0_0.length c0_0):=(blk_cell BK101.out 0).trans rfl
                   have hcz32_1:wr.cell? ⟨gb101,1,none⟩ = some (.slice A0_1 l0_1.length c0_1):=(blk_cell BK101.out 1).trans rfl
                   have hfz32_0:=blk_frozen BK101.out 0
                   have hfz32_1:=blk_frozen BK101.out 1
                   go_wp2_with (first|(go_at_call 48;(with_reducible refine (q3.calls k4 _ _ l0_0 _ _ l0_1 x48_4 x6_1 true _ ?side1 ?side2 ?side3 ?side4 A23.out).mono ?_);(case side1=>exact cq (Kd.C_below HR0_0.out HB.out));(case side2=>exact HC0_0.out);(case side3=>exact cq (Kd.C_below HR0_1.out HB.out));(case side4=>exact HC0_1.out);rintro e w33 ⟨rfl,hb⟩;have n0_:=zk (Kd.R_below (rq HO_5.out) hb);have n1_:=zk (blk_below (g:=gb101) (o:=.cells #[.slice A0_0 l0_0.length c0_0,.slice A0_1 l0_1.length c0_1] 25 (0,0)) (hq BK101.out) hb);have n2_:=zk (below_step (bg HB.out GE101 GE101) hb);clear HO_5;clear BK101;clear HB;have HO_5:=n0_;have BK101:=n1_;have HB:=n2_;clear n0_ n1_ n2_;(try clear hb);(try clear hb2);(try clear hk);(try clear hi)))
                   go_roundg k4
                   case measure=>have:=HK1.out;have:=HJ3.out;have:=HJ8.out;have:=HK4.out;omega
                   case rel=>exact ⟨(Go.bits .or .u32 x7_4 (Go.bits .and .u32 t106 (ji31))),(wrap64 (x48_4 + 1)),(by first|rfl|(simp;done)|(simp only [← hji31] <;> (first|rfl|simp))|(simp [*];done)),oE,(by first|exact H'|exact ⟨by simp only [hji25,hji27,hji29,hji31];exact H'.out⟩),⟨by have:=HK1.out;have:=HJ3.out;have:=HJ8.out;have:=HK4.out;omega⟩,⟨rq HO_5.out⟩,⟨hq BK101.out⟩,⟨bg HB.out GE101 GE101⟩⟩
                  ·rw [if_neg c30] at H
                   exact absurd H (by simp)
                 ·rw [if_neg c28] at H
                  have c28b0:((Go.bits .and .u32 (ji27) 1) == 1) = false:=beq_eq_false_iff_ne.mpr c28
                  have c28b1:((Go.bits .and .u32 (ji27) 1) != 1) = true:=bne_iff_ne.mpr c28
                  have H':=Aside0.mk H
                  clear H
                  have hcz34_0:wr.cell? ⟨gb101,0,none⟩ = some (.slice A0_0 l0_0.length c0_0):=(blk_cell BK101.out 0).trans rfl
                  have hcz34_1:wr.cell? ⟨gb101,1,none⟩ = some (.slice A0_1 l0_1.length c0_1):=(blk_cell BK101.out 1).trans rfl
                  have hfz34_0:=blk_frozen BK101.out 0
                  have hfz34_1:=blk_frozen BK101.out 1
                  go_wp2_with (first|(go_at_call 48;(with_reducible refine (q3.calls k4 _ _ l0_0 _ _ l0_1 x48_4 x6_1 true _ ?side1 ?side2 ?side3 ?side4 A23.out).mono ?_);(case side1=>exact cq (Kd.C_below HR0_0.out HB.out));(case side2=>exact HC0_0.out);(case side3=>exact cq (Kd.C_below HR0_1.out HB.out));(case side4=>exact HC0_1.out);rintro e w35 ⟨rfl,hb⟩;have n0_:=zk (Kd.R_below (rq HO_5.out) hb);have n1_:=zk (blk_below (g:=gb101) (o:=.cells #[.slice A0_0 l0_0.length c0_0,.slice A0_1 l0_1.length c0_1] 25 (0,0)) (hq BK101.out) hb);have n2_:=zk (below_step (bg HB.out GE101 GE101) hb);clear HO_5;clear BK101;clear HB;have HO_5:=n0_;have BK101:=n1_;have HB:=n2_;clear n0_ n1_ n2_;(try clear hb);(try clear hb2);(try clear hk);(try clear hi)))
                  go_roundg k4
                  case measure=>have:=HK1.out;have:=HJ3.out;have:=HJ8.out;have:=HK4.out;omega
                  case rel=>exact ⟨(x7_4),(wrap64 (x48_4 + 1)),oE,oE,(by first|exact H'|exact ⟨by simp only [hji25,hji27];exact H'.out⟩),⟨by have:=HK1.out;have:=HJ3.out;have:=HJ8.out;have:=HK4.out;omega⟩,⟨rq HO_5.out⟩,⟨hq BK101.out⟩,⟨bg HB.out GE101 GE101⟩⟩
                ·rw [if_neg c26] at H
                 exact absurd H (by simp)
               ·replace c24:=Bool.eq_false_iff.mpr c24
                subst c24
                have H1:(q21.l1 k4 l1 x5_1 x6_1 x7_4 t106 (l0_0.length:Int) (wrap64 (x48_4 + 1)) l0_0 l0_1) = some r:=by rw [if_neg (show ¬ (false = true) by decide)] at H;exact H
                clear H
                have H:=H1
                clear H1
                have H':=Aside0.mk H
                clear H
                have hcz36_0:wr.cell? ⟨gb101,0,none⟩ = some (.slice A0_0 l0_0.length c0_0):=(blk_cell BK101.out 0).trans rfl
                have hcz36_1:wr.cell? ⟨gb101,1,none⟩ = some (.slice A0_1 l0_1.length c0_1):=(blk_cell BK101.out 1).trans rfl
                have hfz36_0:=blk_frozen BK101.out 0
                have hfz36_1:=blk_frozen BK101.out 1
                go_wp2_with (first|(go_at_call 48;(with_reducible refine (q3.calls k4 _ _ l0_0 _ _ l0_1 x48_4 x6_1 false _ ?side1 ?side2 ?side3 ?side4 A23.out).mono ?_);(case side1=>exact cq (Kd.C_below HR0_0.out HB.out));(case side2=>exact HC0_0.out);(case side3=>exact cq (Kd.C_below HR0_1.out HB.out));(case side4=>exact HC0_1.out);rintro e w37 ⟨rfl,hb⟩;have n0_:=zk (Kd.R_below (rq HO_5.out) hb);have n1_:=zk (blk_below (g:=gb101) (o:=.cells #[.slice A0_0 l0_0.length c0_0,.slice A0_1 l0_1.length c0_1] 25 (0,0)) (hq BK101.out) hb);have n2_:=zk (below_step (bg HB.out GE101 GE101) hb);clear HO_5;clear BK101;clear HB;have HO_5:=n0_;have BK101:=n1_;have HB:=n2_;clear n0_ n1_ n2_;(try clear hb);(try clear hb2);(try clear hk);(try clear hi)))
                go_roundg k4
                case measure=>have:=HK1.out;have:=HJ3.out;have:=HJ8.out;have:=HK4.out;omega
                case rel=>exact ⟨(x7_4),(wrap64 (x48_4 + 1)),oE,oE,H',⟨by have:=HK1.out;have:=HJ3.out;have:=HJ8.out;have:=HK4.out;omega⟩,⟨rq HO_5.out⟩,⟨hq BK101.out⟩,⟨bg HB.out GE101 GE101⟩⟩
             ·rw [if_neg c21] at H
              have c21b0:decide (x48_4 < (l0_0.length:Int)) = false:=decide_eq_false c21
              clear c21
              by_cases c38:x5_1.length < 35184372088832
              ·rw [if_pos c38] at H
               have LMc38:=Aside0.mk c38
               clear c38
               obtain ⟨y108,hy108⟩:∃ y_:List Int,y_ = (x5_1 ++ [x7_4]):=⟨_,rfl⟩
               replace H:(q21.l0 k4 l1 y108 (wrap64 (x6_1 + 1)) l0_0 l0_1) = some r:=by first|(rw [hy108];with_reducible exact H)|(have H2_:=(Option.bind_some _ _).symm.trans H;rw [hy108];with_reducible exact H2_)|(have H2_:=(Option.bind_some _ _).symm.trans H;with_reducible exact H2_)|with_reducible exact H|(rw [hy108];exact H)|exact H
               have Ny108:=Aside0.mk hy108
               clear hy108
               have H':=Aside0.mk H
               clear H
               go_wp2_with (first|((with_reducible refine gate_builtin (b:=.append) (xs:=#[.tmp 76,.tmp 78]) rfl ?_);(try (refine gate_guard (by rfl) ?_;dsimp only));at_builtin;refine Kd.R_append (Kd.int .u32) (w0:=w) w.heap.size rfl (.tmp 76) (.tmp 78) 42 29 (.int .u32 0) 4 rfl Try.underlying42 info29 rfl (by decide) (by omega) u5 x5_1 x7_4 [.int .u32 x7_4] (fun _=>True) (fun _=>False) rfl rfl ?aP (fun _ hk=>hk.elim) ?aF ?aO ?aB ?aS ?aL ?_;(case aP=>exact rfl);(case aB=>exact (bg HB.out GE101 GE101));(case aF=>exact (fun _ _=>trivial));(case aO=>exact (rq HO_5.out));(case aS=>exact (below_size (bg HB.out GE101 GE101)));(case aL=>have:=LMc38.out;omega);intro v109 w39 ho hb hg hat;rw [← Ny108.out] at ho;have n0_:=zk (blk_grown (g:=gb101) (o:=.cells #[.slice A0_0 l0_0.length c0_0,.slice A0_1 l0_1.length c0_1] 25 (0,0)) (hq BK101.out) hg (Kd.R_ne HO_5.out BK101.out (by decide)));have n1_:=zk (hb);have n2_:=zk (ho);clear BK101;clear HB;clear HO_5;have BK101:=n0_;have HB:=n1_;have HO110:=n2_;clear n0_ n1_ n2_;clear ho hb hg hat))
               go_roundg k4
               case measure=>have:=HK1.out;have:=HJ3.out;have:=HJ8.out;have:=HK4.out;omega
               case rel=>exact ⟨(y108),(wrap64 (x6_1 + 1)),oE,H',⟨by have:=HK1.out;have:=HJ3.out;have:=HJ8.out;have:=HK4.out;omega⟩,⟨rq HO110.out⟩,⟨hq BK101.out⟩,⟨bg HB.out GE101 GE101⟩⟩
              ·rw [if_neg c38] at H
               exact absurd H (by simp)
          ·rw [if_neg c16] at H
           exact absurd H (by simp)
         ·rw [if_neg c15] at H
          exact absurd H (by simp)
        ·replace c14:=Bool.eq_false_iff.mpr c14
         subst c14
         have H1:(if x5_1.length < 35184372088832 then (q21.l0 kj8 l1 (x5_1 ++ [0]) (wrap64 (x6_1 + 1)) l0_0 l0_1) else (none)) = some r:=by rw [if_neg (show ¬ (false = true) by decide)] at H;exact H
         clear H
         have H:=H1
         clear H1
         by_cases c40:x5_1.length < 35184372088832
         ·rw [if_pos c40] at H
          have LMc40:=Aside0.mk c40
          clear c40
          obtain ⟨y111,hy111⟩:∃ y_:List Int,y_ = (x5_1 ++ [0]):=⟨_,rfl⟩
          replace H:(q21.l0 kj8 l1 y111 (wrap64 (x6_1 + 1)) l0_0 l0_1) = some r:=by first|(rw [hy111];with_reducible exact H)|(have H2_:=(Option.bind_some _ _).symm.trans H;rw [hy111];with_reducible exact H2_)|(have H2_:=(Option.bind_some _ _).symm.trans H;with_reducible exact H2_)|with_reducible exact H|(rw [hy111];exact H)|exact H
          have Ny111:=Aside0.mk hy111
          clear hy111
          have H':=Aside0.mk H
          clear H
          go_wp2_with (first|((with_reducible refine gate_builtin (b:=.append) (xs:=#[.tmp 76,.tmp 78]) rfl ?_);(try (refine gate_guard (by rfl) ?_;dsimp only));at_builtin;refine Kd.R_append (Kd.int .u32) (w0:=w) w.heap.size rfl (.tmp 76) (.tmp 78) 42 29 (.int .u32 0) 4 rfl Try.underlying42 info29 rfl (by decide) (by omega) u5 x5_1 0 [.int .u32 0] (fun _=>True) (fun _=>False) rfl rfl ?aP (fun _ hk=>hk.elim) ?aF ?aO ?aB ?aS ?aL ?_;(case aP=>exact rfl);(case aB=>exact (bg HB.out GE101 GE101));(case aF=>exact (fun _ _=>trivial));(case aO=>exact (rq HO_5.out));(case aS=>exact (below_size (bg HB.out GE101 GE101)));(case aL=>have:=LMc40.out;omega);intro v112 w41 ho hb hg hat;rw [← Ny111.out] at ho;have n0_:=zk (blk_grown (g:=gb101) (o:=.cells #[.slice A0_0 l0_0.length c0_0,.slice A0_1 l0_1.length c0_1] 25 (0,0)) (hq BK101.out) hg (Kd.R_ne HO_5.out BK101.out (by decide)));have n1_:=zk (hb);have n2_:=zk (ho);clear BK101;clear HB;clear HO_5;have BK101:=n0_;have HB:=n1_;have HO113:=n2_;clear n0_ n1_ n2_;clear ho hb hg hat))
          go_roundg kj8
          case measure=>have:=HK1.out;have:=HJ3.out;have:=HJ8.out;omega
          case rel=>exact ⟨(y111),(wrap64 (x6_1 + 1)),oE,H',⟨by have:=HK1.out;have:=HJ3.out;have:=HJ8.out;omega⟩,⟨rq HO113.out⟩,⟨hq BK101.out⟩,⟨bg HB.out GE101 GE101⟩⟩
         ·rw [if_neg c40] at H
          exact absurd H (by simp)
     ·replace c8:=Bool.eq_false_iff.mpr c8
      subst c8
      have H1:(some x5_1) = some r:=by rw [if_neg (show ¬ (false = true) by decide)] at H;exact H
      clear H
      have H:=H1
      clear H1
      obtain rfl:=Option.some.inj H
      go_wp2
      go_ret
      exact ⟨_,by first|rfl|(simp [errW_none,errW_some] <;> rfl)|(simp [*,errW_none,errW_some] <;> rfl),rq HO_5.out,bg HB.out GE101 GE101⟩
def q25.f (l0_0:List Int) (l0_1:List Int) (a1:Int):Option (Bool):=if a1 ≥ 0 then (some (decide (a1 < (l0_0.length:Int)))) else (some false)
set_option maxHeartbeats 8000000 in
set_option maxRecDepth 100000 in
theorem q25.calls (A0_0:Option Addr) (c0_0:Nat) (l0_0:List Int) (A0_1:Option Addr) (c0_1:Nat) (l0_1:List Int) (a1:Int) (r:Bool) (w:World) (hr0_0:Kd.C (Kd.int .i64) w A0_0 l0_0.length l0_0) (hc0_0:l0_0.length ≤ c0_0) (hr0_1:Kd.C (Kd.int .i64) w A0_1 l0_1.length l0_1) (hc0_1:l0_1.length ≤ c0_1) (h:q25.f l0_0 l0_1 a1 = some r) :
  Calls Try.prog 51 #[.agg #[.slice A0_0 l0_0.length c0_0,.slice A0_1 l0_1.length c0_1],.int .i64 a1] w fun e w'=>e = .returned (.bool r) ∧ Below w.heap.size w w':=by
 have hu24:=Try.underlying24
 have HR0_0:=Aside0.mk hr0_0
 have HC0_0:=Aside0.mk hc0_0
 clear hr0_0 hc0_0
 have HR0_1:=Aside0.mk hr0_1
 have HC0_1:=Aside0.mk hc0_1
 clear hr0_1 hc0_1
 have HB:=zk (Below.refl w.heap.size w)
 have H:(if a1 ≥ 0 then (some (decide (a1 < (l0_0.length:Int)))) else (some false)) = some r:=h
 clear h
 by_cases c3:a1 ≥ 0
 ·rw [if_pos c3] at H
  have c3b0:decide (0 ≤ a1) = true:=decide_eq_true c3
  clear c3
  obtain rfl:=Option.some.inj H
  go_enter Try.func51,Try.ntmps51
  go_wp2_with (first|((with_reducible refine gate_dst (N:=2) rfl ?_);(try (refine gate_guard (by rfl) ?_;dsimp only));refine box_event ?hg (N:=2) ?hd (cs:=#[.slice A0_0 l0_0.length c0_0,.slice A0_1 l0_1.length c0_1]) (t:=24) ?hr ?_;(case hd=>rfl);(case hg=>rfl);(case hr=>first|(go_simp;done)|(go_simp;rfl));intro gb101 hg w4 hbox hb;have n0_:=zk (below_step (bq HB.out) hb);have n1_:=zk (hbox);have n2_:=zk ((by rw [hg];exact (below_size (bq HB.out)):w.heap.size ≤ gb101));have n3_:=zk ((by rw [hg];exact (below_size (bq HB.out)):w.heap.size ≤ gb101));clear HB;have HB:=n0_;have BK101:=n1_;have GW101:=n2_;have GE101:=n3_;clear n0_ n1_ n2_ n3_;clear hb hbox hg;have hcz5_0:w4.cell? ⟨gb101,0,none⟩ = some (.slice A0_0 l0_0.length c0_0):=(blk_cell BK101.out 0).trans rfl;have hcz5_1:w4.cell? ⟨gb101,1,none⟩ = some (.slice A0_1 l0_1.length c0_1):=(blk_cell BK101.out 1).trans rfl;have hfz5_0:=blk_frozen BK101.out 0;have hfz5_1:=blk_frozen BK101.out 1))
  go_ret
  exact ⟨by first|rfl|(simp [errW_none,errW_some] <;> rfl)|(simp [*,errW_none,errW_some] <;> rfl),bg HB.out GE101 GE101⟩
 ·rw [if_neg c3] at H
  have c3b0:decide (0 ≤ a1) = false:=decide_eq_false c3
  clear c3
  obtain rfl:=Option.some.inj H
  go_enter Try.func51,Try.ntmps51
  go_wp2_with (first|((with_reducible refine gate_dst (N:=2) rfl ?_);(try (refine gate_guard (by rfl) ?_;dsimp only));refine box_event ?hg (N:=2) ?hd (cs:=#[.slice A0_0 l0_0.length c0_0,.slice A0_1 l0_1.length c0_1]) (t:=24) ?hr ?_;(case hd=>rfl);(case hg=>rfl);(case hr=>first|(go_simp;done)|(go_simp;rfl));intro gb101 hg w6 hbox hb;have n0_:=zk (below_step (bq HB.out) hb);have n1_:=zk (hbox);have n2_:=zk ((by rw [hg];exact (below_size (bq HB.out)):w.heap.size ≤ gb101));have n3_:=zk ((by rw [hg];exact (below_size (bq HB.out)):w.heap.size ≤ gb101));clear HB;have HB:=n0_;have BK101:=n1_;have GW101:=n2_;have GE101:=n3_;clear n0_ n1_ n2_ n3_;clear hb hbox hg))
  go_ret
  exact ⟨by first|rfl|(simp [errW_none,errW_some] <;> rfl)|(simp [*,errW_none,errW_some] <;> rfl),bg HB.out GE101 GE101⟩
end Go.Proofs.Ytnomeokicfpidaa.Q
