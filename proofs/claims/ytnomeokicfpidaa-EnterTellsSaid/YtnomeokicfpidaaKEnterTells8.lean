-- merged and slimmed by slim.py (a program of this repo)
import Derived.Test.YtnomeokicfpidaaKEnterTells3
namespace Go.Proofs.Ytnomeokicfpidaa.Q
open Go.RowKit Go.Proofs.YtnomeokicfpidaaW.PrintWords Go.Proofs.YtnomeokicfpidaaW.PrintLast Go.Proofs.YtnomeokicfpidaaW.PrintMore
attribute [local go_sem] max2_int min2_int max_two min_two max_three min_three max_four min_four
set_option linter.unusedVariables false
set_option linter.unusedSimpArgs false
mutual
def q2.j0:Nat → Int → Int → Bool → List Int → List Int → Option (Int)
 | 0,_,_,_,_,_=>none
 | k + 1,x1,x2,x17,x102000,x102001=>if x17 = true then (some (-1)) else (if 0 ≤ x1 then (if x1 < (x102001.length:Int) then (q2.l0 k x2 (rd x102001 x1) x102000 x102001) else (none)) else (none))
def q2.l0:Nat → Int → Int → List Int → List Int → Option (Int)
 | 0,_,_,_,_=>none
 | k + 1,x2,x7,x102000,x102001=>if x7 ≥ 0 then (if 0 ≤ x7 then (if x7 < (x102000.length:Int) then (if (rd x102000 x7) = 1 then (if x7 = x2 then (if x7 < (x102001.length:Int) then (q2.l0 k x2 (rd x102001 x7) x102000 x102001) else (none)) else ((q3.f k x102000 x102001 x2 x7).bind fun t107=>(if t107 = true then (some x7) else (if x7 < (x102001.length:Int) then (q2.l0 k x2 (rd x102001 x7) x102000 x102001) else (none))))) else (if x7 < (x102001.length:Int) then (q2.l0 k x2 (rd x102001 x7) x102000 x102001) else (none))) else (none)) else (none)) else (some (-1))
end
def q2.f (k:Nat) (l0_0:List Int) (l0_1:List Int) (a1:Int) (a2:Int):Option (Int):=(q13.f l0_0 l0_1 a1).bind fun t102=>(if t102 = true then ((q13.f l0_0 l0_1 a2).bind fun t103=>(q2.j0 k a1 a2 (!t103) l0_0 l0_1)) else (q2.j0 k a1 a2 true l0_0 l0_1))
set_option maxHeartbeats 8000000 in
set_option maxRecDepth 100000 in
theorem q2.calls (k:Nat) (A0_0:Option Addr) (c0_0:Nat) (l0_0:List Int) (A0_1:Option Addr) (c0_1:Nat) (l0_1:List Int) (a1:Int) (a2:Int) (r:Int) (w:World) (hr0_0:Kd.C (Kd.int .i64) w A0_0 l0_0.length l0_0) (hc0_0:l0_0.length ≤ c0_0) (hr0_1:Kd.C (Kd.int .i64) w A0_1 l0_1.length l0_1) (hc0_1:l0_1.length ≤ c0_1) (h:q2.f k l0_0 l0_1 a1 a2 = some r) :
  Calls Try.prog 34 #[.agg #[.slice A0_0 l0_0.length c0_0,.slice A0_1 l0_1.length c0_1],.int .i64 a1,.int .i64 a2] w fun e w'=>e = .returned (.int .i64 r) ∧ Below w.heap.size w w':=by
 have hu25:=Try.underlying25
 have HR0_0:=Aside0.mk hr0_0
 have HC0_0:=Aside0.mk hc0_0
 clear hr0_0 hc0_0
 have HR0_1:=Aside0.mk hr0_1
 have HC0_1:=Aside0.mk hc0_1
 clear hr0_1 hc0_1
 have HB:=zk (Below.refl w.heap.size w)
 have H:((q13.f l0_0 l0_1 a1).bind fun t102=>(if t102 = true then ((q13.f l0_0 l0_1 a2).bind fun t103=>(q2.j0 k a1 a2 (!t103) l0_0 l0_1)) else (q2.j0 k a1 a2 true l0_0 l0_1))) = some r:=h
 clear h
 have HC4:=Aside0.mk H
 clear H
 go_enter Try.func34,Try.ntmps34
 go_upto_region 1 with (first|((with_reducible refine gate_dst (N:=3) rfl ?_);refine box_event ?hg (N:=3) ?hd (cs:=#[.slice A0_0 l0_0.length c0_0,.slice A0_1 l0_1.length c0_1]) (t:=25) ?hr ?_;(case hd=>rfl);(case hg=>rfl);(case hr=>first|(go_simp;done)|(go_simp;rfl));intro gb101 hg w5 hbox hb;have n0_:=zk (below_step (bq HB.out) hb);have n1_:=zk (hbox);have n2_:=zk ((by rw [hg];exact (below_size (bq HB.out)):w.heap.size ≤ gb101));have n3_:=zk ((by rw [hg];exact (below_size (bq HB.out)):w.heap.size ≤ gb101));clear HB;have HB:=n0_;have BK101:=n1_;have GW101:=n2_;have GE101:=n3_;clear n0_ n1_ n2_ n3_;clear hb hbox hg))
 (try simp only [Act.put,List.setIfInBounds_toArray,List.set_cons_zero,List.set_cons_succ])
 go_cut [17] (fun v17 wc=>∃ (kq:Nat) (x17_3:Bool),v17 = .bool x17_3 ∧ Aside0 (q2.j0 kq a1 a2 x17_3 l0_0 l0_1 = some r) ∧ Aside0 (kq ≤ k) ∧ Aside0 (wc.heap[gb101]? = some (.cells #[(.slice A0_0 l0_0.length c0_0),(.slice A0_1 l0_1.length c0_1)] 25 (0,0))) ∧ Aside0 (Below w.heap.size w wc))
 case first =>
  have H:=HC4.out
  clear HC4
  replace H:=Option.bind_eq_some_iff.mp H
  obtain ⟨t102,A60,H⟩:=H
  replace H:(if t102 = true then ((q13.f l0_0 l0_1 a2).bind fun t103=>(q2.j0 k a1 a2 (!t103) l0_0 l0_1)) else (q2.j0 k a1 a2 true l0_0 l0_1)) = some r:=H
  have A6:=Aside0.mk A60
  clear A60
  by_cases c7:t102 = true
  ·subst c7
   have H1:((q13.f l0_0 l0_1 a2).bind fun t103=>(q2.j0 k a1 a2 (!t103) l0_0 l0_1)) = some r:=by rw [if_pos rfl] at H;exact H
   clear H
   have H:=H1
   clear H1
   replace H:=Option.bind_eq_some_iff.mp H
   obtain ⟨t103,A80,H⟩:=H
   replace H:(q2.j0 k a1 a2 (!t103) l0_0 l0_1) = some r:=H
   have A8:=Aside0.mk A80
   clear A80
   have H':=Aside0.mk H
   clear H
   have hcz9_0:w5.cell? ⟨gb101,0,none⟩ = some (.slice A0_0 l0_0.length c0_0):=(blk_cell BK101.out 0).trans rfl
   have hcz9_1:w5.cell? ⟨gb101,1,none⟩ = some (.slice A0_1 l0_1.length c0_1):=(blk_cell BK101.out 1).trans rfl
   have hfz9_0:=blk_frozen BK101.out 0
   have hfz9_1:=blk_frozen BK101.out 1
   go_wp2_with (first|((with_reducible refine gate_callee (f:=54) rfl ?_);refine goesL_ (some 10) rfl rfl Try.func54 (by kernel_rfl) rfl #[.agg #[.slice A0_0 l0_0.length c0_0,.slice A0_1 l0_1.length c0_1],.int .i64 a1] rfl oF ?_;(with_reducible refine (q13.calls _ _ l0_0 _ _ l0_1 a1 true _ ?side1 ?side2 ?side3 ?side4 A6.out).mono ?_);(case side1=>exact cq (Kd.C_below HR0_0.out HB.out));(case side2=>exact HC0_0.out);(case side3=>exact cq (Kd.C_below HR0_1.out HB.out));(case side4=>exact HC0_1.out);rintro e w10 ⟨rfl,hb⟩;refine ⟨_,rfl,?_⟩;have n0_:=zk (blk_below (g:=gb101) (o:=.cells #[.slice A0_0 l0_0.length c0_0,.slice A0_1 l0_1.length c0_1] 25 (0,0)) (hq BK101.out) hb);have n1_:=zk (below_step (bg HB.out GE101 GE101) hb);clear BK101;clear HB;have BK101:=n0_;have HB:=n1_;clear n0_ n1_;(try clear hb);(try clear hb2);(try clear hk);(try clear hi);have hcz11_0:w10.cell? ⟨gb101,0,none⟩ = some (.slice A0_0 l0_0.length c0_0):=(blk_cell BK101.out 0).trans rfl;have hcz11_1:w10.cell? ⟨gb101,1,none⟩ = some (.slice A0_1 l0_1.length c0_1):=(blk_cell BK101.out 1).trans rfl;have hfz11_0:=blk_frozen BK101.out 0;have hfz11_1:=blk_frozen BK101.out 1)|(go_at_call 54;(with_reducible refine (q13.calls _ _ l0_0 _ _ l0_1 a2 t103 _ ?side1 ?side2 ?side3 ?side4 A8.out).mono ?_);(case side1=>exact cq (Kd.C_below HR0_0.out HB.out));(case side2=>exact HC0_0.out);(case side3=>exact cq (Kd.C_below HR0_1.out HB.out));(case side4=>exact HC0_1.out);rintro e w12 ⟨rfl,hb⟩;have n0_:=zk (blk_below (g:=gb101) (o:=.cells #[.slice A0_0 l0_0.length c0_0,.slice A0_1 l0_1.length c0_1] 25 (0,0)) (hq BK101.out) hb);have n1_:=zk (below_step (bg HB.out GE101 GE101) hb);clear BK101;clear HB;have BK101:=n0_;have HB:=n1_;clear n0_ n1_;(try clear hb);(try clear hb2);(try clear hk);(try clear hi)))
   go_meet
   case rel=>exact ⟨_,(!t103),oE,H',⟨by first|omega|exact Nat.le_refl _⟩,⟨hq BK101.out⟩,⟨bg HB.out GE101 GE101⟩⟩
  ·replace c7:=Bool.eq_false_iff.mpr c7
   subst c7
   have H1:(q2.j0 k a1 a2 true l0_0 l0_1) = some r:=by rw [if_neg (show ¬ (false = true) by decide)] at H;exact H
   clear H
   have H:=H1
   clear H1
   have H':=Aside0.mk H
   clear H
   have hcz13_0:w5.cell? ⟨gb101,0,none⟩ = some (.slice A0_0 l0_0.length c0_0):=(blk_cell BK101.out 0).trans rfl
   have hcz13_1:w5.cell? ⟨gb101,1,none⟩ = some (.slice A0_1 l0_1.length c0_1):=(blk_cell BK101.out 1).trans rfl
   have hfz13_0:=blk_frozen BK101.out 0
   have hfz13_1:=blk_frozen BK101.out 1
   go_wp2_with (first|((with_reducible refine gate_callee (f:=54) rfl ?_);refine goesL_ (some 10) rfl rfl Try.func54 (by kernel_rfl) rfl #[.agg #[.slice A0_0 l0_0.length c0_0,.slice A0_1 l0_1.length c0_1],.int .i64 a1] rfl oF ?_;(with_reducible refine (q13.calls _ _ l0_0 _ _ l0_1 a1 false _ ?side1 ?side2 ?side3 ?side4 A6.out).mono ?_);(case side1=>exact cq (Kd.C_below HR0_0.out HB.out));(case side2=>exact HC0_0.out);(case side3=>exact cq (Kd.C_below HR0_1.out HB.out));(case side4=>exact HC0_1.out);rintro e w14 ⟨rfl,hb⟩;refine ⟨_,rfl,?_⟩;have n0_:=zk (blk_below (g:=gb101) (o:=.cells #[.slice A0_0 l0_0.length c0_0,.slice A0_1 l0_1.length c0_1] 25 (0,0)) (hq BK101.out) hb);have n1_:=zk (below_step (bg HB.out GE101 GE101) hb);clear BK101;clear HB;have BK101:=n0_;have HB:=n1_;clear n0_ n1_;(try clear hb);(try clear hb2);(try clear hk);(try clear hi)))
   go_meet
   case rel=>exact ⟨_,(true),oE,H',⟨by first|omega|exact Nat.le_refl _⟩,⟨hq BK101.out⟩,⟨bg HB.out GE101 GE101⟩⟩
 case rest =>
  clear HC4
  try clear p2
  try clear c3
  try clear c5
  try clear c7
  try clear hcz11_0
  try clear hcz11_1
  try clear hcz13_0
  try clear hcz13_1
  try clear hcz9_0
  try clear hcz9_1
  try clear hfz11_0
  try clear hfz11_1
  try clear hfz13_0
  try clear hfz13_1
  try clear hfz9_0
  try clear hfz9_1
  obtain ⟨kq,x17_3,rfl,HA,HJ3,BK101,HB⟩:=hcut
  cases kq with
  | zero=>exact absurd HA.out (by simp [q2.j0])
  | succ kj3 =>
   have H:=HA.out
   clear HA
   simp only [q2.j0] at H
   by_cases c15:x17_3 = true
   ·subst c15
    have H1:(some (-1)) = some r:=by rw [if_pos rfl] at H;exact H
    clear H
    have H:=H1
    clear H1
    obtain rfl:=Option.some.inj H
    go_wp2
    go_ret
    exact ⟨by first|rfl|(simp [errW_none,errW_some] <;> rfl)|(simp [*,errW_none,errW_some] <;> rfl),bg HB.out GE101 GE101⟩
   ·replace c15:=Bool.eq_false_iff.mpr c15
    subst c15
    have H1:(if 0 ≤ a1 then (if a1 < (l0_1.length:Int) then (q2.l0 kj3 a2 (rd l0_1 a1) l0_0 l0_1) else (none)) else (none)) = some r:=by rw [if_neg (show ¬ (false = true) by decide)] at H;exact H
    clear H
    have H:=H1
    clear H1
    by_cases c16:0 ≤ a1
    ·rw [if_pos c16] at H
     have c16b0:decide (0 ≤ a1) = true:=decide_eq_true c16
     clear c16
     by_cases c17:a1 < (l0_1.length:Int)
     ·rw [if_pos c17] at H
      have c17b0:decide (a1 < (l0_1.length:Int)) = true:=decide_eq_true c17
      clear c17
      have H':=Aside0.mk H
      clear H
      have hcz18_0:wc.cell? ⟨gb101,0,none⟩ = some (.slice A0_0 l0_0.length c0_0):=(blk_cell BK101.out 0).trans rfl
      have hcz18_1:wc.cell? ⟨gb101,1,none⟩ = some (.slice A0_1 l0_1.length c0_1):=(blk_cell BK101.out 1).trans rfl
      have hfz18_0:=blk_frozen BK101.out 0
      have hfz18_1:=blk_frozen BK101.out 1
      have p104:0 ≤ (a1:Int):=oA
      have q104:a1 < (l0_1.length:Int):=oA
      obtain ⟨ad104,e104,hx104_0⟩:=Kd.at_int HR0_1.out a1 p104 q104
      cases e104
      replace hx104_0:=(HB.out.cell (World.block_lt_of_cell? w _ hx104_0)).trans hx104_0
      replace p104:=eq_true p104
      replace q104:=eq_true q104
      go_wp2
      go_loopg [7] kj3 (fun kq v7 w'=>∃ (x7_2:Int),v7 = .int .i64 x7_2 ∧ Aside0 (q2.l0 kq a2 x7_2 l0_0 l0_1 = some r) ∧ Aside0 (kq ≤ kj3) ∧ Aside0 (w'.heap[gb101]? = some (.cells #[(.slice A0_0 l0_0.length c0_0),(.slice (some ad104) l0_1.length c0_1)] 25 (0,0))) ∧ Aside0 (Below w.heap.size w w'))
      case atStart=>exact ⟨(rd l0_1 a1),oE,H',⟨Nat.le_refl _⟩,⟨hq BK101.out⟩,⟨bg HB.out GE101 GE101⟩⟩
      case round =>
       clear H'
       try clear c1
       try clear p1
       try clear q1
       try clear hx1
       try clear p2
       try clear c3
       try clear c5
       try clear c7
       try clear p10
       try clear q10
       try clear hx10
       try clear c15
       try clear c16
       try clear c16b0
       try clear c17
       try clear c17b0
       try clear hcz11_0
       try clear hcz11_1
       try clear hcz13_0
       try clear hcz13_1
       try clear hcz18_0
       try clear hcz18_1
       try clear hcz9_0
       try clear hcz9_1
       try clear hfz11_0
       try clear hfz11_1
       try clear hfz13_0
       try clear hfz13_1
       try clear hfz18_0
       try clear hfz18_1
       try clear hfz9_0
       try clear hfz9_1
       try clear hx104_0
       try clear p104
       try clear p2
       try clear q104
       obtain ⟨x7_2,rfl,HA,HK2,BK101,HB⟩:=hrel
       cases gk with
       | zero=>exact absurd HA.out (by simp [q2.l0])
       | succ k2 =>
        have H:=HA.out
        clear HA
        simp only [q2.l0] at H
        by_cases c19:x7_2 ≥ 0
        ·rw [if_pos c19] at H
         have c19b0:decide (0 ≤ x7_2) = true:=decide_eq_true c19
         clear c19
         by_cases c20:0 ≤ x7_2
         ·rw [if_pos c20] at H
          have c20b0:decide (0 ≤ x7_2) = true:=decide_eq_true c20
          clear c20
          by_cases c21:x7_2 < (l0_0.length:Int)
          ·rw [if_pos c21] at H
           have c21b0:decide (x7_2 < (l0_0.length:Int)) = true:=decide_eq_true c21
           clear c21
           by_cases c22:(rd l0_0 x7_2) = 1
           ·rw [if_pos c22] at H
            have c22b0:((rd l0_0 x7_2) == 1) = true:=beq_iff_eq.mpr c22
            have c22b1:((rd l0_0 x7_2) != 1) = false:=bne_eq_false_iff_eq.mpr c22
            clear c22
            by_cases c23:x7_2 = a2
            ·rw [if_pos c23] at H
             have c23b0:(x7_2 == a2) = true:=beq_iff_eq.mpr c23
             have c23b1:(x7_2 != a2) = false:=bne_eq_false_iff_eq.mpr c23
             clear c23
             by_cases c24:x7_2 < (l0_1.length:Int)
             ·rw [if_pos c24] at H
              have c24b0:decide (x7_2 < (l0_1.length:Int)) = true:=decide_eq_true c24
              clear c24
              have H':=Aside0.mk H
              clear H
              have hcz25_0:wr.cell? ⟨gb101,0,none⟩ = some (.slice A0_0 l0_0.length c0_0):=(blk_cell BK101.out 0).trans rfl
              have hcz25_1:wr.cell? ⟨gb101,1,none⟩ = some (.slice (some ad104) l0_1.length c0_1):=(blk_cell BK101.out 1).trans rfl
              have hfz25_0:=blk_frozen BK101.out 0
              have hfz25_1:=blk_frozen BK101.out 1
              have p105:0 ≤ (x7_2:Int):=oA
              have q105:x7_2 < (l0_0.length:Int):=oA
              obtain ⟨ad105,e105,hx105_0⟩:=Kd.at_int HR0_0.out x7_2 p105 q105
              cases e105
              replace hx105_0:=(HB.out.cell (World.block_lt_of_cell? w _ hx105_0)).trans hx105_0
              replace p105:=eq_true p105
              replace q105:=eq_true q105
              have p106:0 ≤ (x7_2:Int):=oA
              have q106:x7_2 < (l0_1.length:Int):=oA
              obtain ⟨ad106,e106,hx106_0⟩:=Kd.at_int HR0_1.out x7_2 p106 q106
              obtain rfl:ad104 = ad106:=(by injection e106)
              replace hx106_0:=(HB.out.cell (World.block_lt_of_cell? w _ hx106_0)).trans hx106_0
              replace p106:=eq_true p106
              replace q106:=eq_true q106
              go_wp2
              go_roundg k2
              case measure=>have:=HJ3.out;have:=HK2.out;omega
              case rel=>exact ⟨(rd l0_1 x7_2),oE,H',⟨by have:=HJ3.out;have:=HK2.out;omega⟩,⟨hq BK101.out⟩,⟨bg HB.out GE101 GE101⟩⟩
             ·rw [if_neg c24] at H
              exact absurd H (by simp)
            ·rw [if_neg c23] at H
             have c23b0:(x7_2 == a2) = false:=beq_eq_false_iff_ne.mpr c23
             have c23b1:(x7_2 != a2) = true:=bne_iff_ne.mpr c23
             replace H:=Option.bind_eq_some_iff.mp H
             obtain ⟨t107,A260,H⟩:=H
             replace H:(if t107 = true then (some x7_2) else (if x7_2 < (l0_1.length:Int) then (q2.l0 k2 a2 (rd l0_1 x7_2) l0_0 l0_1) else (none))) = some r:=H
             have A26:=Aside0.mk A260
             clear A260
             by_cases c27:t107 = true
             ·subst c27
              have H1:(some x7_2) = some r:=by rw [if_pos rfl] at H;exact H
              clear H
              have H:=H1
              clear H1
              obtain rfl:=Option.some.inj H
              have hcz28_0:wr.cell? ⟨gb101,0,none⟩ = some (.slice A0_0 l0_0.length c0_0):=(blk_cell BK101.out 0).trans rfl
              have hcz28_1:wr.cell? ⟨gb101,1,none⟩ = some (.slice (some ad104) l0_1.length c0_1):=(blk_cell BK101.out 1).trans rfl
              have hfz28_0:=blk_frozen BK101.out 0
              have hfz28_1:=blk_frozen BK101.out 1
              have p105:0 ≤ (x7_2:Int):=oA
              have q105:x7_2 < (l0_0.length:Int):=oA
              obtain ⟨ad105,e105,hx105_0⟩:=Kd.at_int HR0_0.out x7_2 p105 q105
              cases e105
              replace hx105_0:=(HB.out.cell (World.block_lt_of_cell? w _ hx105_0)).trans hx105_0
              replace p105:=eq_true p105
              replace q105:=eq_true q105
              go_wp2_with (first|(go_at_call 48;(with_reducible refine (q3.calls k2 _ _ l0_0 _ _ l0_1 a2 x7_2 true _ ?side1 ?side2 ?side3 ?side4 A26.out).mono ?_);(case side1=>exact cq (Kd.C_below HR0_0.out HB.out));(case side2=>exact HC0_0.out);(case side3=>exact cq (Kd.C_below HR0_1.out HB.out));(case side4=>exact HC0_1.out);rintro e w29 ⟨rfl,hb⟩;have n0_:=zk (blk_below (g:=gb101) (o:=.cells #[.slice (some ad105) l0_0.length c0_0,.slice (some ad104) l0_1.length c0_1] 25 (0,0)) (hq BK101.out) hb);have n1_:=zk (below_step (bg HB.out GE101 GE101) hb);clear BK101;clear HB;have BK101:=n0_;have HB:=n1_;clear n0_ n1_;(try clear hb);(try clear hb2);(try clear hk);(try clear hi)))
              go_ret
              exact ⟨by first|rfl|(simp [errW_none,errW_some] <;> rfl)|(simp [*,errW_none,errW_some] <;> rfl),bg HB.out GE101 GE101⟩
             ·replace c27:=Bool.eq_false_iff.mpr c27
              subst c27
              have H1:(if x7_2 < (l0_1.length:Int) then (q2.l0 k2 a2 (rd l0_1 x7_2) l0_0 l0_1) else (none)) = some r:=by rw [if_neg (show ¬ (false = true) by decide)] at H;exact H
              clear H
              have H:=H1
              clear H1
              by_cases c30:x7_2 < (l0_1.length:Int)
              ·rw [if_pos c30] at H
               have c30b0:decide (x7_2 < (l0_1.length:Int)) = true:=decide_eq_true c30
               clear c30
               have H':=Aside0.mk H
               clear H
               have hcz31_0:wr.cell? ⟨gb101,0,none⟩ = some (.slice A0_0 l0_0.length c0_0):=(blk_cell BK101.out 0).trans rfl
               have hcz31_1:wr.cell? ⟨gb101,1,none⟩ = some (.slice (some ad104) l0_1.length c0_1):=(blk_cell BK101.out 1).trans rfl
               have hfz31_0:=blk_frozen BK101.out 0
               have hfz31_1:=blk_frozen BK101.out 1
               have p105:0 ≤ (x7_2:Int):=oA
               have q105:x7_2 < (l0_0.length:Int):=oA
               obtain ⟨ad105,e105,hx105_0⟩:=Kd.at_int HR0_0.out x7_2 p105 q105
               cases e105
               replace hx105_0:=(HB.out.cell (World.block_lt_of_cell? w _ hx105_0)).trans hx105_0
               replace p105:=eq_true p105
               replace q105:=eq_true q105
               go_wp2_with (first|(go_at_call 48;(with_reducible refine (q3.calls k2 _ _ l0_0 _ _ l0_1 a2 x7_2 false _ ?side1 ?side2 ?side3 ?side4 A26.out).mono ?_);(case side1=>exact cq (Kd.C_below HR0_0.out HB.out));(case side2=>exact HC0_0.out);(case side3=>exact cq (Kd.C_below HR0_1.out HB.out));(case side4=>exact HC0_1.out);rintro e w32 ⟨rfl,hb⟩;have n0_:=zk (blk_below (g:=gb101) (o:=.cells #[.slice (some ad105) l0_0.length c0_0,.slice (some ad104) l0_1.length c0_1] 25 (0,0)) (hq BK101.out) hb);have n1_:=zk (below_step (bg HB.out GE101 GE101) hb);clear BK101;clear HB;have BK101:=n0_;have HB:=n1_;clear n0_ n1_;(try clear hb);(try clear hb2);(try clear hk);(try clear hi);have hcz33_0:w32.cell? ⟨gb101,0,none⟩ = some (.slice (some ad105) l0_0.length c0_0):=(blk_cell BK101.out 0).trans rfl;have hcz33_1:w32.cell? ⟨gb101,1,none⟩ = some (.slice (some ad104) l0_1.length c0_1):=(blk_cell BK101.out 1).trans rfl;have hfz33_0:=blk_frozen BK101.out 0;have hfz33_1:=blk_frozen BK101.out 1;have p108:0 ≤ (x7_2:Int):=oA;have q108:x7_2 < (l0_1.length:Int):=oA;obtain ⟨ad108,e108,hx108_0⟩:=Kd.at_int HR0_1.out x7_2 p108 q108;obtain rfl:ad104 = ad108:=(by injection e108);replace hx108_0:=(HB.out.cell (World.block_lt_of_cell? w _ hx108_0)).trans hx108_0;replace p108:=eq_true p108;replace q108:=eq_true q108))
               go_roundg k2
               case measure=>have:=HJ3.out;have:=HK2.out;omega
               case rel=>exact ⟨(rd l0_1 x7_2),oE,H',⟨by have:=HJ3.out;have:=HK2.out;omega⟩,⟨hq BK101.out⟩,⟨bg HB.out GE101 GE101⟩⟩
              ·rw [if_neg c30] at H
               exact absurd H (by simp)
           ·rw [if_neg c22] at H
            have c22b0:((rd l0_0 x7_2) == 1) = false:=beq_eq_false_iff_ne.mpr c22
            have c22b1:((rd l0_0 x7_2) != 1) = true:=bne_iff_ne.mpr c22
            by_cases c34:x7_2 < (l0_1.length:Int)
            ·rw [if_pos c34] at H
             have c34b0:decide (x7_2 < (l0_1.length:Int)) = true:=decide_eq_true c34
             clear c34
             have H':=Aside0.mk H
             clear H
             have hcz35_0:wr.cell? ⟨gb101,0,none⟩ = some (.slice A0_0 l0_0.length c0_0):=(blk_cell BK101.out 0).trans rfl
             have hcz35_1:wr.cell? ⟨gb101,1,none⟩ = some (.slice (some ad104) l0_1.length c0_1):=(blk_cell BK101.out 1).trans rfl
             have hfz35_0:=blk_frozen BK101.out 0
             have hfz35_1:=blk_frozen BK101.out 1
             have p105:0 ≤ (x7_2:Int):=oA
             have q105:x7_2 < (l0_0.length:Int):=oA
             obtain ⟨ad105,e105,hx105_0⟩:=Kd.at_int HR0_0.out x7_2 p105 q105
             cases e105
             replace hx105_0:=(HB.out.cell (World.block_lt_of_cell? w _ hx105_0)).trans hx105_0
             replace p105:=eq_true p105
             replace q105:=eq_true q105
             have p109:0 ≤ (x7_2:Int):=oA
             have q109:x7_2 < (l0_1.length:Int):=oA
             obtain ⟨ad109,e109,hx109_0⟩:=Kd.at_int HR0_1.out x7_2 p109 q109
             obtain rfl:ad104 = ad109:=(by injection e109)
             replace hx109_0:=(HB.out.cell (World.block_lt_of_cell? w _ hx109_0)).trans hx109_0
             replace p109:=eq_true p109
             replace q109:=eq_true q109
             go_wp2
             go_roundg k2
             case measure=>have:=HJ3.out;have:=HK2.out;omega
             case rel=>exact ⟨(rd l0_1 x7_2),oE,H',⟨by have:=HJ3.out;have:=HK2.out;omega⟩,⟨hq BK101.out⟩,⟨bg HB.out GE101 GE101⟩⟩
            ·rw [if_neg c34] at H
             exact absurd H (by simp)
          ·rw [if_neg c21] at H
           exact absurd H (by simp)
         ·rw [if_neg c20] at H
          exact absurd H (by simp)
        ·rw [if_neg c19] at H
         have c19b0:decide (0 ≤ x7_2) = false:=decide_eq_false c19
         clear c19
         obtain rfl:=Option.some.inj H
         go_wp2
         go_ret
         exact ⟨by first|rfl|(simp [errW_none,errW_some] <;> rfl)|(simp [*,errW_none,errW_some] <;> rfl),bg HB.out GE101 GE101⟩
     ·rw [if_neg c17] at H
      exact absurd H (by simp)
    ·rw [if_neg c16] at H
     exact absurd H (by simp)
def q5.l0:Nat → Int → Int → List Int → Int → List Int → List Int → Option (List Int)
 | 0,_,_,_,_,_,_=>none
 | k + 1,x1,x2,x7,x8,x102000,x102001=>if x8 ≥ 0 then (if 0 ≤ (IntKind.u64.wrap (x8)) then (if (Go.bits .and .u32 (shr .u32 x1 (IntKind.u64.wrap (x8))) 1) = 1 then (if x8 = x2 then (q5.l0 k x1 x2 x7 (wrap64 (x8 - 1)) x102000 x102001) else ((q3.f k x102000 x102001 x8 x2).bind fun t102=>(if t102 = true then (if x7.length < 17592186044416 then (q5.l0 k x1 x2 (x7 ++ [x8]) (wrap64 (x8 - 1)) x102000 x102001) else (none)) else (q5.l0 k x1 x2 x7 (wrap64 (x8 - 1)) x102000 x102001)))) else (q5.l0 k x1 x2 x7 (wrap64 (x8 - 1)) x102000 x102001)) else (none)) else (some x7)
def q5.f (k:Nat) (l0_0:List Int) (l0_1:List Int) (a1:Int) (a2:Int):Option (List Int):=q5.l0 k a1 a2 ([]:List Int) (wrap64 ((l0_0.length:Int) - 1)) l0_0 l0_1
set_option maxHeartbeats 8000000 in
set_option maxRecDepth 100000 in
theorem q5.calls (k:Nat) (A0_0:Option Addr) (c0_0:Nat) (l0_0:List Int) (A0_1:Option Addr) (c0_1:Nat) (l0_1:List Int) (a1:Int) (a2:Int) (r:List Int) (w:World) (hr0_0:Kd.C (Kd.int .i64) w A0_0 l0_0.length l0_0) (hc0_0:l0_0.length ≤ c0_0) (hr0_1:Kd.C (Kd.int .i64) w A0_1 l0_1.length l0_1) (hc0_1:l0_1.length ≤ c0_1) (h:q5.f k l0_0 l0_1 a1 a2 = some r) :
  Calls Try.prog 35 #[.agg #[.slice A0_0 l0_0.length c0_0,.slice A0_1 l0_1.length c0_1],.int .u32 a1,.int .i64 a2] w fun e w'=>∃ v0_:Value,e = .returned (v0_) ∧ Kd.R (Kd.int .i64) 3 w' w.heap.size (fun _=>True) v0_ r ∧ Below w.heap.size w w':=by
 have hu25:=Try.underlying25
 have HR0_0:=Aside0.mk hr0_0
 have HC0_0:=Aside0.mk hc0_0
 clear hr0_0 hc0_0
 have HR0_1:=Aside0.mk hr0_1
 have HC0_1:=Aside0.mk hc0_1
 clear hr0_1 hc0_1
 have HB:=zk (Below.refl w.heap.size w)
 have H:(q5.l0 k a1 a2 ([]:List Int) (wrap64 ((l0_0.length:Int) - 1)) l0_0 l0_1) = some r:=h
 clear h
 have H':=Aside0.mk H
 clear H
 go_enter Try.func35,Try.ntmps35
 go_wp2_with (first|((with_reducible refine gate_dst (N:=3) rfl ?_);refine box_event ?hg (N:=3) ?hd (cs:=#[.slice A0_0 l0_0.length c0_0,.slice A0_1 l0_1.length c0_1]) (t:=25) ?hr ?_;(case hd=>rfl);(case hg=>rfl);(case hr=>first|(go_simp;done)|(go_simp;rfl));intro gb101 hg w4 hbox hb;have n0_:=zk (below_step (bq HB.out) hb);have n1_:=zk (hbox);have n2_:=zk ((by rw [hg];exact (below_size (bq HB.out)):w.heap.size ≤ gb101));have n3_:=zk ((by rw [hg];exact (below_size (bq HB.out)):w.heap.size ≤ gb101));clear HB;have HB:=n0_;have BK101:=n1_;have GW101:=n2_;have GE101:=n3_;clear n0_ n1_ n2_ n3_;clear hb hbox hg;have hcz5_0:w4.cell? ⟨gb101,0,none⟩ = some (.slice A0_0 l0_0.length c0_0):=(blk_cell BK101.out 0).trans rfl;have hcz5_1:w4.cell? ⟨gb101,1,none⟩ = some (.slice A0_1 l0_1.length c0_1):=(blk_cell BK101.out 1).trans rfl;have hfz5_0:=blk_frozen BK101.out 0;have hfz5_1:=blk_frozen BK101.out 1))
 go_loopg [7,8] k (fun kq v7 v8 w'=>∃ (x7_1:List Int) (x8_1:Int),v8 = .int .i64 x8_1 ∧ Aside0 (q5.l0 kq a1 a2 x7_1 x8_1 l0_0 l0_1 = some r) ∧ Aside0 (kq ≤ k) ∧ Aside0 (Kd.R (Kd.int .i64) 3 w' w.heap.size (fun _=>True) v7 x7_1) ∧ Aside0 (w'.heap[gb101]? = some (.cells #[(.slice A0_0 l0_0.length c0_0),(.slice A0_1 l0_1.length c0_1)] 25 (0,0))) ∧ Aside0 (Below w.heap.size w w'))
 case atStart=>exact ⟨(([]:List Int)),(wrap64 ((l0_0.length:Int) - 1)),oE,H',⟨Nat.le_refl _⟩,⟨by first|exact Kd.R_nil _ _ _ _ _|exact Kd.N_nil _ _ _ _ _|exact Kd.V_nil _ _ _ _ _|exact Kd.Q_nil _ _ _ _ _|exact Kd.S_nil _ _ _ _ _⟩,⟨hq BK101.out⟩,⟨bg HB.out GE101 GE101⟩⟩
 case round =>
  clear H'
  try clear p2
  try clear c3
  try clear hcz5_0
  try clear hcz5_1
  try clear hfz5_0
  try clear hfz5_1
  obtain ⟨x7_1,x8_1,rfl,HA,HK1,HO_7,BK101,HB⟩:=hrel
  cases gk with
  | zero=>exact absurd HA.out (by simp [q5.l0])
  | succ k1 =>
   have H:=HA.out
   clear HA
   simp only [q5.l0] at H
   by_cases c6:x8_1 ≥ 0
   ·rw [if_pos c6] at H
    have c6b0:decide (0 ≤ x8_1) = true:=decide_eq_true c6
    clear c6
    obtain ⟨ji7,hji7⟩:∃ j_:Int,(IntKind.u64.wrap (x8_1)) = j_:=⟨_,rfl⟩
    replace H:(if 0 ≤ (ji7) then (if (Go.bits .and .u32 (shr .u32 a1 (ji7)) 1) = 1 then (if x8_1 = a2 then (q5.l0 k1 a1 a2 x7_1 (wrap64 (x8_1 - 1)) l0_0 l0_1) else ((q3.f k1 l0_0 l0_1 x8_1 a2).bind fun t102=>(if t102 = true then (if x7_1.length < 17592186044416 then (q5.l0 k1 a1 a2 (x7_1 ++ [x8_1]) (wrap64 (x8_1 - 1)) l0_0 l0_1) else (none)) else (q5.l0 k1 a1 a2 x7_1 (wrap64 (x8_1 - 1)) l0_0 l0_1)))) else (q5.l0 k1 a1 a2 x7_1 (wrap64 (x8_1 - 1)) l0_0 l0_1)) else (none)) = some r:=by first|(rw [hji7] at H;exact H)|(simp only [hji7] at H ⊢;exact H)
    by_cases c8:0 ≤ (ji7)
    ·rw [if_pos c8] at H
     have c8b0:=eq_true c8
     have c8b1:decide (0 ≤ (ji7)) = true:=decide_eq_true c8
     clear c8
     obtain ⟨ji9,hji9⟩:∃ j_:Int,(shr .u32 a1 (ji7)) = j_:=⟨_,rfl⟩
     replace H:(if (Go.bits .and .u32 (ji9) 1) = 1 then (if x8_1 = a2 then (q5.l0 k1 a1 a2 x7_1 (wrap64 (x8_1 - 1)) l0_0 l0_1) else ((q3.f k1 l0_0 l0_1 x8_1 a2).bind fun t102=>(if t102 = true then (if x7_1.length < 17592186044416 then (q5.l0 k1 a1 a2 (x7_1 ++ [x8_1]) (wrap64 (x8_1 - 1)) l0_0 l0_1) else (none)) else (q5.l0 k1 a1 a2 x7_1 (wrap64 (x8_1 - 1)) l0_0 l0_1)))) else (q5.l0 k1 a1 a2 x7_1 (wrap64 (x8_1 - 1)) l0_0 l0_1)) = some r:=by first|(rw [hji9] at H;exact H)|(simp only [hji9] at H ⊢;exact H)
     have hji9_:(a1 / 2 ^ min (ji7).toNat 32) = ji9:=hji9
     have hji9z:(ji7) ≤ 32 → (a1 / 2 ^ (ji7).toNat) = ji9:=shr_small hji9
     by_cases c10:(Go.bits .and .u32 (ji9) 1) = 1
     ·rw [if_pos c10] at H
      have c10b0:((Go.bits .and .u32 (ji9) 1) == 1) = true:=beq_iff_eq.mpr c10
      have c10b1:((Go.bits .and .u32 (ji9) 1) != 1) = false:=bne_eq_false_iff_eq.mpr c10
      clear c10
      by_cases c11:x8_1 = a2
      ·rw [if_pos c11] at H
       have c11b0:(x8_1 == a2) = true:=beq_iff_eq.mpr c11
       have c11b1:(x8_1 != a2) = false:=bne_eq_false_iff_eq.mpr c11
       clear c11
       have H':=Aside0.mk H
       clear H
       go_wp2
       go_roundg k1
       case measure=>have:=HK1.out;omega
       case rel=>exact ⟨(x7_1),(wrap64 (x8_1 - 1)),oE,(by first|exact H'|exact ⟨by simp only [hji7,hji9];exact H'.out⟩),⟨by have:=HK1.out;omega⟩,⟨rq HO_7.out⟩,⟨hq BK101.out⟩,⟨bg HB.out GE101 GE101⟩⟩
      ·rw [if_neg c11] at H
       have c11b0:(x8_1 == a2) = false:=beq_eq_false_iff_ne.mpr c11
       have c11b1:(x8_1 != a2) = true:=bne_iff_ne.mpr c11
       replace H:=Option.bind_eq_some_iff.mp H
       obtain ⟨t102,A120,H⟩:=H
       replace H:(if t102 = true then (if x7_1.length < 17592186044416 then (q5.l0 k1 a1 a2 (x7_1 ++ [x8_1]) (wrap64 (x8_1 - 1)) l0_0 l0_1) else (none)) else (q5.l0 k1 a1 a2 x7_1 (wrap64 (x8_1 - 1)) l0_0 l0_1)) = some r:=H
       have A12:=Aside0.mk A120
       clear A120
       by_cases c13:t102 = true
       ·subst c13
        have H1:(if x7_1.length < 17592186044416 then (q5.l0 k1 a1 a2 (x7_1 ++ [x8_1]) (wrap64 (x8_1 - 1)) l0_0 l0_1) else (none)) = some r:=by rw [if_pos rfl] at H;exact H
        clear H
        have H:=H1
        clear H1
        by_cases c14:x7_1.length < 17592186044416
        ·rw [if_pos c14] at H
         have LMc14:=Aside0.mk c14
         clear c14
         obtain ⟨y103,hy103⟩:∃ y_:List Int,y_ = (x7_1 ++ [x8_1]):=⟨_,rfl⟩
         replace H:(q5.l0 k1 a1 a2 y103 (wrap64 (x8_1 - 1)) l0_0 l0_1) = some r:=by first|(rw [hy103];with_reducible exact H)|(have H2_:=(Option.bind_some _ _).symm.trans H;rw [hy103];with_reducible exact H2_)|(have H2_:=(Option.bind_some _ _).symm.trans H;with_reducible exact H2_)|with_reducible exact H|(rw [hy103];exact H)|exact H
         have Ny103:=Aside0.mk hy103
         clear hy103
         have H':=Aside0.mk H
         clear H
         have hcz15_0:wr.cell? ⟨gb101,0,none⟩ = some (.slice A0_0 l0_0.length c0_0):=(blk_cell BK101.out 0).trans rfl
         have hcz15_1:wr.cell? ⟨gb101,1,none⟩ = some (.slice A0_1 l0_1.length c0_1):=(blk_cell BK101.out 1).trans rfl
         have hfz15_0:=blk_frozen BK101.out 0
         have hfz15_1:=blk_frozen BK101.out 1
         go_wp2_with (first|(go_at_call 48;(with_reducible refine (q3.calls k1 _ _ l0_0 _ _ l0_1 x8_1 a2 true _ ?side1 ?side2 ?side3 ?side4 A12.out).mono ?_);(case side1=>exact cq (Kd.C_below HR0_0.out HB.out));(case side2=>exact HC0_0.out);(case side3=>exact cq (Kd.C_below HR0_1.out HB.out));(case side4=>exact HC0_1.out);rintro e w16 ⟨rfl,hb⟩;have n0_:=zk (Kd.R_below (rq HO_7.out) hb);have n1_:=zk (blk_below (g:=gb101) (o:=.cells #[.slice A0_0 l0_0.length c0_0,.slice A0_1 l0_1.length c0_1] 25 (0,0)) (hq BK101.out) hb);have n2_:=zk (below_step (bg HB.out GE101 GE101) hb);clear HO_7;clear BK101;clear HB;have HO_7:=n0_;have BK101:=n1_;have HB:=n2_;clear n0_ n1_ n2_;(try clear hb);(try clear hb2);(try clear hk);(try clear hi))|((with_reducible refine gate_builtin (b:=.append) (xs:=#[.tmp 34,.tmp 36]) rfl ?_);at_builtin;refine Kd.R_append (Kd.int .i64) (w0:=w) w.heap.size rfl (.tmp 34) (.tmp 36) 22 3 (.int .i64 0) 8 rfl Try.underlying22 info3 rfl (by decide) (by omega) u7 x7_1 x8_1 [.int .i64 x8_1] (fun _=>True) (fun _=>False) rfl rfl ?aP (fun _ hk=>hk.elim) ?aF ?aO ?aB ?aS ?aL ?_;(case aP=>exact rfl);(case aB=>exact (bg HB.out GE101 GE101));(case aF=>exact (fun _ _=>trivial));(case aO=>exact (rq HO_7.out));(case aS=>exact (below_size (bg HB.out GE101 GE101)));(case aL=>have:=LMc14.out;omega);intro v104 w17 ho hb hg hat;rw [← Ny103.out] at ho;have n0_:=zk (blk_grown (g:=gb101) (o:=.cells #[.slice A0_0 l0_0.length c0_0,.slice A0_1 l0_1.length c0_1] 25 (0,0)) (hq BK101.out) hg (Kd.R_ne HO_7.out BK101.out (by decide)));have n1_:=zk (hb);have n2_:=zk (ho);clear BK101;clear HB;clear HO_7;have BK101:=n0_;have HB:=n1_;have HO105:=n2_;clear n0_ n1_ n2_;clear ho hb hg hat))
         go_roundg k1
         case measure=>have:=HK1.out;omega
         case rel=>exact ⟨(y103),(wrap64 (x8_1 - 1)),oE,(by first|exact H'|exact ⟨by simp only [hji7,hji9];exact H'.out⟩),⟨by have:=HK1.out;omega⟩,⟨rq HO105.out⟩,⟨hq BK101.out⟩,⟨bg HB.out GE101 GE101⟩⟩
        ·rw [if_neg c14] at H
         exact absurd H (by simp)
       ·replace c13:=Bool.eq_false_iff.mpr c13
        subst c13
        have H1:(q5.l0 k1 a1 a2 x7_1 (wrap64 (x8_1 - 1)) l0_0 l0_1) = some r:=by rw [if_neg (show ¬ (false = true) by decide)] at H;exact H
        clear H
        have H:=H1
        clear H1
        have H':=Aside0.mk H
        clear H
        have hcz18_0:wr.cell? ⟨gb101,0,none⟩ = some (.slice A0_0 l0_0.length c0_0):=(blk_cell BK101.out 0).trans rfl
        have hcz18_1:wr.cell? ⟨gb101,1,none⟩ = some (.slice A0_1 l0_1.length c0_1):=(blk_cell BK101.out 1).trans rfl
        have hfz18_0:=blk_frozen BK101.out 0
        have hfz18_1:=blk_frozen BK101.out 1
        go_wp2_with (first|(go_at_call 48;(with_reducible refine (q3.calls k1 _ _ l0_0 _ _ l0_1 x8_1 a2 false _ ?side1 ?side2 ?side3 ?side4 A12.out).mono ?_);(case side1=>exact cq (Kd.C_below HR0_0.out HB.out));(case side2=>exact HC0_0.out);(case side3=>exact cq (Kd.C_below HR0_1.out HB.out));(case side4=>exact HC0_1.out);rintro e w19 ⟨rfl,hb⟩;have n0_:=zk (Kd.R_below (rq HO_7.out) hb);have n1_:=zk (blk_below (g:=gb101) (o:=.cells #[.slice A0_0 l0_0.length c0_0,.slice A0_1 l0_1.length c0_1] 25 (0,0)) (hq BK101.out) hb);have n2_:=zk (below_step (bg HB.out GE101 GE101) hb);clear HO_7;clear BK101;clear HB;have HO_7:=n0_;have BK101:=n1_;have HB:=n2_;clear n0_ n1_ n2_;(try clear hb);(try clear hb2);(try clear hk);(try clear hi)))
        go_roundg k1
        case measure=>have:=HK1.out;omega
        case rel=>exact ⟨(x7_1),(wrap64 (x8_1 - 1)),oE,(by first|exact H'|exact ⟨by simp only [hji7,hji9];exact H'.out⟩),⟨by have:=HK1.out;omega⟩,⟨rq HO_7.out⟩,⟨hq BK101.out⟩,⟨bg HB.out GE101 GE101⟩⟩
     ·rw [if_neg c10] at H
      have c10b0:((Go.bits .and .u32 (ji9) 1) == 1) = false:=beq_eq_false_iff_ne.mpr c10
      have c10b1:((Go.bits .and .u32 (ji9) 1) != 1) = true:=bne_iff_ne.mpr c10
      have H':=Aside0.mk H
      clear H
      go_wp2
      go_roundg k1
      case measure=>have:=HK1.out;omega
      case rel=>exact ⟨(x7_1),(wrap64 (x8_1 - 1)),oE,(by first|exact H'|exact ⟨by simp only [hji7,hji9];exact H'.out⟩),⟨by have:=HK1.out;omega⟩,⟨rq HO_7.out⟩,⟨hq BK101.out⟩,⟨bg HB.out GE101 GE101⟩⟩
    ·rw [if_neg c8] at H
     exact absurd H (by simp)
   ·rw [if_neg c6] at H
    have c6b0:decide (0 ≤ x8_1) = false:=decide_eq_false c6
    clear c6
    obtain rfl:=Option.some.inj H
    go_wp2
    go_ret
    exact ⟨_,by first|rfl|(simp [errW_none,errW_some] <;> rfl)|(simp [*,errW_none,errW_some] <;> rfl),rq HO_7.out,bg HB.out GE101 GE101⟩
def q8.f (l0:List Int):Option (List Int):=if ([]:List Int).length + l0.length < 35184372088832 then (some (([]:List Int) ++ l0)) else (none)
set_option maxHeartbeats 8000000 in
set_option maxRecDepth 100000 in
theorem q8.calls (A0:Option Addr) (c0:Nat) (l0:List Int) (r:List Int) (w:World) (hr0:Kd.C (Kd.int .u32) w A0 l0.length l0) (hc0:l0.length ≤ c0) (h:q8.f l0 = some r) :
  Calls Try.prog 36 #[.slice A0 l0.length c0] w fun e w'=>∃ v0_:Value,e = .returned (v0_) ∧ Kd.R (Kd.int .u32) 29 w' w.heap.size (fun _=>True) v0_ r ∧ Below w.heap.size w w':=by
 have HR0:=Aside0.mk hr0
 have HC0:=Aside0.mk hc0
 clear hr0 hc0
 have HB:=zk (Below.refl w.heap.size w)
 have H:(if ([]:List Int).length + l0.length < 35184372088832 then (some (([]:List Int) ++ l0)) else (none)) = some r:=h
 clear h
 by_cases c2:([]:List Int).length + l0.length < 35184372088832
 ·rw [if_pos c2] at H
  have LMc2:=Aside0.mk c2
  clear c2
  obtain ⟨y101,hy101⟩:∃ y_:List Int,y_ = (([]:List Int) ++ l0):=⟨_,rfl⟩
  replace H:(some y101) = some r:=by first|(rw [hy101];with_reducible exact H)|(have H2_:=(Option.bind_some _ _).symm.trans H;rw [hy101];with_reducible exact H2_)|(have H2_:=(Option.bind_some _ _).symm.trans H;with_reducible exact H2_)|with_reducible exact H|(rw [hy101];exact H)|exact H
  have Ny101:=Aside0.mk hy101
  clear hy101
  obtain rfl:=Option.some.inj H
  go_enter Try.func36,Try.ntmps36
  go_wp2_with (first|((with_reducible refine gate_builtin (b:=.append) (xs:=#[.const (.slice none 0 0),.tmp 3]) rfl ?_);at_builtin;refine Kd.R_append_rows (Kd.int .u32) (w0:=w) w.heap.size rfl (.const (.slice none 0 0)) (.tmp 3) 42 29 (.int .u32 0) 4 rfl Try.underlying42 info29 rfl (by decide) (by omega) (.slice none 0 0) ([]:List Int) l0 _ _ _ (fun _=>True) (fun _=>False) rfl rfl ?aO ?aR (fun _ _ h=>h) (fun _ h=>h.elim) ?aF ?aB ?aS ?aL ?_;(case aR=>exact cq HR0.out);(case aB=>exact (bq HB.out));(case aF=>exact (fun _ _=>trivial));(case aO=>exact ((Kd.R_nil _ _ _ _ (fun _=>True))));(case aS=>exact (below_size (bq HB.out)));(case aL=>have:=LMc2.out;omega);intro v102 w3 ho hb hg hat;rw [← Ny101.out] at ho;have n0_:=zk (hb);have n1_:=zk (ho);clear HB;have HB:=n0_;have HO103:=n1_;clear n0_ n1_;clear ho hb hg hat))
  go_ret
  exact ⟨_,by first|rfl|(simp [errW_none,errW_some] <;> rfl)|(simp [*,errW_none,errW_some] <;> rfl),rq HO103.out,bq HB.out⟩
 ·rw [if_neg c2] at H
  exact absurd H (by simp)
def q17.f (l0:List Int) (a1:Int):Option (Int):=if a1 ≥ 0 then (if a1 < (l0.length:Int) then (if 0 ≤ a1 then (some (rd l0 a1)) else (none)) else (some 0)) else (some 0)
set_option maxHeartbeats 8000000 in
set_option maxRecDepth 100000 in
theorem q17.calls (A0:Option Addr) (c0:Nat) (l0:List Int) (a1:Int) (r:Int) (w:World) (hr0:Kd.C (Kd.int .u32) w A0 l0.length l0) (hc0:l0.length ≤ c0) (h:q17.f l0 a1 = some r) :
  Calls Try.prog 57 #[.slice A0 l0.length c0,.int .i64 a1] w fun e w'=>e = .returned (.int .u32 r) ∧ Drawn0 w w':=by
 have HR0:=Aside0.mk hr0
 have HC0:=Aside0.mk hc0
 clear hr0 hc0
 have H:(if a1 ≥ 0 then (if a1 < (l0.length:Int) then (if 0 ≤ a1 then (some (rd l0 a1)) else (none)) else (some 0)) else (some 0)) = some r:=h
 clear h
 by_cases c3:a1 ≥ 0
 ·rw [if_pos c3] at H
  have c3b0:decide (0 ≤ a1) = true:=decide_eq_true c3
  clear c3
  by_cases c4:a1 < (l0.length:Int)
  ·rw [if_pos c4] at H
   have c4b0:decide (a1 < (l0.length:Int)) = true:=decide_eq_true c4
   clear c4
   by_cases c5:0 ≤ a1
   ·rw [if_pos c5] at H
    have c5b0:decide (0 ≤ a1) = true:=decide_eq_true c5
    clear c5
    obtain rfl:=Option.some.inj H
    have p101:0 ≤ (a1:Int):=oA
    have q101:a1 < (l0.length:Int):=oA
    obtain ⟨ad101,e101,hx101_0⟩:=Kd.at_int HR0.out a1 p101 q101
    cases e101
    replace p101:=eq_true p101
    replace q101:=eq_true q101
    go_enter Try.func57,Try.ntmps57
    go_wp2
    go_ret
    exact ⟨by first|rfl|(simp;done)|(simp [*];done),by repeat (first|exact Drawn0.refl _|apply Drawn0.step)⟩
   ·rw [if_neg c5] at H
    exact absurd H (by simp)
  ·rw [if_neg c4] at H
   have c4b0:decide (a1 < (l0.length:Int)) = false:=decide_eq_false c4
   clear c4
   obtain rfl:=Option.some.inj H
   go_enter Try.func57,Try.ntmps57
   go_wp2
   go_ret
   exact ⟨by first|rfl|(simp;done)|(simp [*];done),by repeat (first|exact Drawn0.refl _|apply Drawn0.step)⟩
 ·rw [if_neg c3] at H
  have c3b0:decide (0 ≤ a1) = false:=decide_eq_false c3
  clear c3
  obtain rfl:=Option.some.inj H
  go_enter Try.func57,Try.ntmps57
  go_wp2
  go_ret
  exact ⟨by first|rfl|(simp;done)|(simp [*];done),by repeat (first|exact Drawn0.refl _|apply Drawn0.step)⟩
end Go.Proofs.Ytnomeokicfpidaa.Q
