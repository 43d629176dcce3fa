-- merged and slimmed by slim.py (a program of this repo)
import Derived.Test.YtnomeokicfpidaaKEnterTells3
namespace Go.Proofs.Ytnomeokicfpidaa.Q
open Go.RowKit Go.Proofs.YtnomeokicfpidaaW.PrintWords Go.Proofs.YtnomeokicfpidaaW.PrintLast Go.Proofs.YtnomeokicfpidaaW.PrintMore
attribute [local go_sem] max2_int min2_int max_two min_two max_three min_three max_four min_four
set_option linter.unusedVariables false
set_option linter.unusedSimpArgs false
mutual
def q31.j0:Nat → Int → Int → Bool → List Int → List Int → Option (Bool)
 | 0,_,_,_,_,_=>none
 | k + 1,x1,x2,x20,x102000,x102001=>if x20 = true then (some false) else (q31.l0 k x1 x2 x102000 x102001)
def q31.l0:Nat → Int → Int → List Int → List Int → Option (Bool)
 | 0,_,_,_,_=>none
 | k + 1,x1,x2,x102000,x102001=>if x1 > x2 then (if 0 ≤ x1 then (if x1 < (x102001.length:Int) then (q31.l0 k (rd x102001 x1) x2 x102000 x102001) else (none)) else (none)) else (some (x1 == x2))
end
def q31.f (k:Nat) (l0_0:List Int) (l0_1:List Int) (a1:Int) (a2:Int):Option (Bool):=(q25.f l0_0 l0_1 a1).bind fun t102=>(if t102 = true then (if a2 = (-1) then (q31.j0 k a1 a2 false l0_0 l0_1) else ((q25.f l0_0 l0_1 a2).bind fun t103=>(q31.j0 k a1 a2 (!t103) l0_0 l0_1))) else (q31.j0 k a1 a2 true l0_0 l0_1))
set_option maxHeartbeats 8000000 in
set_option maxRecDepth 100000 in
theorem q31.calls (k:Nat) (A0_0:Option Addr) (c0_0:Nat) (l0_0:List Int) (A0_1:Option Addr) (c0_1:Nat) (l0_1:List Int) (a1:Int) (a2:Int) (r:Bool) (w:World) (hr0_0:Kd.C (Kd.int .i64) w A0_0 l0_0.length l0_0) (hc0_0:l0_0.length ≤ c0_0) (hr0_1:Kd.C (Kd.int .i64) w A0_1 l0_1.length l0_1) (hc0_1:l0_1.length ≤ c0_1) (h:q31.f k l0_0 l0_1 a1 a2 = some r) :
  Calls Try.prog 27 #[.agg #[.slice A0_0 l0_0.length c0_0,.slice A0_1 l0_1.length c0_1],.int .i64 a1,.int .i64 a2] w fun e w'=>e = .returned (.bool r) ∧ Below w.heap.size w w':=by
 have hu24:=Try.underlying24
 have HR0_0:=Aside0.mk hr0_0
 have HC0_0:=Aside0.mk hc0_0
 clear hr0_0 hc0_0
 have HR0_1:=Aside0.mk hr0_1
 have HC0_1:=Aside0.mk hc0_1
 clear hr0_1 hc0_1
 have HB:=zk (Below.refl w.heap.size w)
 have H:((q25.f l0_0 l0_1 a1).bind fun t102=>(if t102 = true then (if a2 = (-1) then (q31.j0 k a1 a2 false l0_0 l0_1) else ((q25.f l0_0 l0_1 a2).bind fun t103=>(q31.j0 k a1 a2 (!t103) l0_0 l0_1))) else (q31.j0 k a1 a2 true l0_0 l0_1))) = some r:=h
 clear h
 have HC4:=Aside0.mk H
 clear H
 go_enter Try.func27,Try.ntmps27
 go_upto_region 1 with (first|((with_reducible refine gate_dst (N:=3) rfl ?_);refine box_event ?hg (N:=3) ?hd (cs:=#[.slice A0_0 l0_0.length c0_0,.slice A0_1 l0_1.length c0_1]) (t:=24) ?hr ?_;(case hd=>rfl);(case hg=>rfl);(case hr=>first|(go_simp;done)|(go_simp;rfl));intro gb101 hg w5 hbox hb;have n0_:=zk (below_step (bq HB.out) hb);have n1_:=zk (hbox);have n2_:=zk ((by rw [hg];exact (below_size (bq HB.out)):w.heap.size ≤ gb101));have n3_:=zk ((by rw [hg];exact (below_size (bq HB.out)):w.heap.size ≤ gb101));clear HB;have HB:=n0_;have BK101:=n1_;have GW101:=n2_;have GE101:=n3_;clear n0_ n1_ n2_ n3_;clear hb hbox hg))
 (try simp only [Act.put,List.setIfInBounds_toArray,List.set_cons_zero,List.set_cons_succ])
 go_cut [20] (fun v20 wc=>∃ (kq:Nat) (x20_3:Bool),v20 = .bool x20_3 ∧ Aside0 (q31.j0 kq a1 a2 x20_3 l0_0 l0_1 = some r) ∧ Aside0 (kq ≤ k) ∧ Aside0 (wc.heap[gb101]? = some (.cells #[(.slice A0_0 l0_0.length c0_0),(.slice A0_1 l0_1.length c0_1)] 24 (0,0))) ∧ Aside0 (Below w.heap.size w wc))
 case first =>
  have H:=HC4.out
  clear HC4
  replace H:=Option.bind_eq_some_iff.mp H
  obtain ⟨t102,A60,H⟩:=H
  replace H:(if t102 = true then (if a2 = (-1) then (q31.j0 k a1 a2 false l0_0 l0_1) else ((q25.f l0_0 l0_1 a2).bind fun t103=>(q31.j0 k a1 a2 (!t103) l0_0 l0_1))) else (q31.j0 k a1 a2 true l0_0 l0_1)) = some r:=H
  have A6:=Aside0.mk A60
  clear A60
  by_cases c7:t102 = true
  ·subst c7
   have H1:(if a2 = (-1) then (q31.j0 k a1 a2 false l0_0 l0_1) else ((q25.f l0_0 l0_1 a2).bind fun t103=>(q31.j0 k a1 a2 (!t103) l0_0 l0_1))) = some r:=by rw [if_pos rfl] at H;exact H
   clear H
   have H:=H1
   clear H1
   by_cases c8:a2 = (-1)
   ·rw [if_pos c8] at H
    have c8b0:(a2 == (-1)) = true:=beq_iff_eq.mpr c8
    have c8b1:(a2 != (-1)) = false:=bne_eq_false_iff_eq.mpr c8
    clear c8
    (first|rw [c8b0]|(simp only [i64_w,i32_w];rw [c8b0])|skip)
    have H':=Aside0.mk H
    clear H
    have hcz9_0:w5.cell? ⟨gb101,0,none⟩ = some (.slice A0_0 l0_0.length c0_0):=(blk_cell BK101.out 0).trans rfl
    have hcz9_1:w5.cell? ⟨gb101,1,none⟩ = some (.slice A0_1 l0_1.length c0_1):=(blk_cell BK101.out 1).trans rfl
    have hfz9_0:=blk_frozen BK101.out 0
    have hfz9_1:=blk_frozen BK101.out 1
    go_wp2_with (first|((with_reducible refine gate_callee (f:=51) rfl ?_);refine goesL_ (some 9) rfl rfl Try.func51 (by kernel_rfl) rfl #[.agg #[.slice A0_0 l0_0.length c0_0,.slice A0_1 l0_1.length c0_1],.int .i64 a1] rfl oF ?_;(with_reducible refine (q25.calls _ _ l0_0 _ _ l0_1 a1 true _ ?side1 ?side2 ?side3 ?side4 A6.out).mono ?_);(case side1=>exact cq (Kd.C_below HR0_0.out HB.out));(case side2=>exact HC0_0.out);(case side3=>exact cq (Kd.C_below HR0_1.out HB.out));(case side4=>exact HC0_1.out);rintro e w10 ⟨rfl,hb⟩;refine ⟨_,rfl,?_⟩;have n0_:=zk (blk_below (g:=gb101) (o:=.cells #[.slice A0_0 l0_0.length c0_0,.slice A0_1 l0_1.length c0_1] 24 (0,0)) (hq BK101.out) hb);have n1_:=zk (below_step (bg HB.out GE101 GE101) hb);clear BK101;clear HB;have BK101:=n0_;have HB:=n1_;clear n0_ n1_;(try clear hb);(try clear hb2);(try clear hk);(try clear hi)))
    go_meet
    case rel=>exact ⟨_,(false),oE,H',⟨by first|omega|exact Nat.le_refl _⟩,⟨hq BK101.out⟩,⟨bg HB.out GE101 GE101⟩⟩
   ·rw [if_neg c8] at H
    have c8b0:(a2 == (-1)) = false:=beq_eq_false_iff_ne.mpr c8
    have c8b1:(a2 != (-1)) = true:=bne_iff_ne.mpr c8
    (first|rw [c8b0]|(simp only [i64_w,i32_w];rw [c8b0])|skip)
    replace H:=Option.bind_eq_some_iff.mp H
    obtain ⟨t103,A110,H⟩:=H
    replace H:(q31.j0 k a1 a2 (!t103) l0_0 l0_1) = some r:=H
    have A11:=Aside0.mk A110
    clear A110
    have H':=Aside0.mk H
    clear H
    have hcz12_0:w5.cell? ⟨gb101,0,none⟩ = some (.slice A0_0 l0_0.length c0_0):=(blk_cell BK101.out 0).trans rfl
    have hcz12_1:w5.cell? ⟨gb101,1,none⟩ = some (.slice A0_1 l0_1.length c0_1):=(blk_cell BK101.out 1).trans rfl
    have hfz12_0:=blk_frozen BK101.out 0
    have hfz12_1:=blk_frozen BK101.out 1
    go_wp2_with (first|((with_reducible refine gate_callee (f:=51) rfl ?_);refine goesL_ (some 9) rfl rfl Try.func51 (by kernel_rfl) rfl #[.agg #[.slice A0_0 l0_0.length c0_0,.slice A0_1 l0_1.length c0_1],.int .i64 a1] rfl oF ?_;(with_reducible refine (q25.calls _ _ l0_0 _ _ l0_1 a1 true _ ?side1 ?side2 ?side3 ?side4 A6.out).mono ?_);(case side1=>exact cq (Kd.C_below HR0_0.out HB.out));(case side2=>exact HC0_0.out);(case side3=>exact cq (Kd.C_below HR0_1.out HB.out));(case side4=>exact HC0_1.out);rintro e w13 ⟨rfl,hb⟩;refine ⟨_,rfl,?_⟩;have n0_:=zk (blk_below (g:=gb101) (o:=.cells #[.slice A0_0 l0_0.length c0_0,.slice A0_1 l0_1.length c0_1] 24 (0,0)) (hq BK101.out) hb);have n1_:=zk (below_step (bg HB.out GE101 GE101) hb);clear BK101;clear HB;have BK101:=n0_;have HB:=n1_;clear n0_ n1_;(try clear hb);(try clear hb2);(try clear hk);(try clear hi);have hcz14_0:w13.cell? ⟨gb101,0,none⟩ = some (.slice A0_0 l0_0.length c0_0):=(blk_cell BK101.out 0).trans rfl;have hcz14_1:w13.cell? ⟨gb101,1,none⟩ = some (.slice A0_1 l0_1.length c0_1):=(blk_cell BK101.out 1).trans rfl;have hfz14_0:=blk_frozen BK101.out 0;have hfz14_1:=blk_frozen BK101.out 1)|(go_at_call 51;(with_reducible refine (q25.calls _ _ l0_0 _ _ l0_1 a2 t103 _ ?side1 ?side2 ?side3 ?side4 A11.out).mono ?_);(case side1=>exact cq (Kd.C_below HR0_0.out HB.out));(case side2=>exact HC0_0.out);(case side3=>exact cq (Kd.C_below HR0_1.out HB.out));(case side4=>exact HC0_1.out);rintro e w15 ⟨rfl,hb⟩;have n0_:=zk (blk_below (g:=gb101) (o:=.cells #[.slice A0_0 l0_0.length c0_0,.slice A0_1 l0_1.length c0_1] 24 (0,0)) (hq BK101.out) hb);have n1_:=zk (below_step (bg HB.out GE101 GE101) hb);clear BK101;clear HB;have BK101:=n0_;have HB:=n1_;clear n0_ n1_;(try clear hb);(try clear hb2);(try clear hk);(try clear hi)))
    go_meet
    case rel=>exact ⟨_,(!t103),oE,H',⟨by first|omega|exact Nat.le_refl _⟩,⟨hq BK101.out⟩,⟨bg HB.out GE101 GE101⟩⟩
  ·replace c7:=Bool.eq_false_iff.mpr c7
   subst c7
   have H1:(q31.j0 k a1 a2 true l0_0 l0_1) = some r:=by rw [if_neg (show ¬ (false = true) by decide)] at H;exact H
   clear H
   have H:=H1
   clear H1
   have H':=Aside0.mk H
   clear H
   have hcz16_0:w5.cell? ⟨gb101,0,none⟩ = some (.slice A0_0 l0_0.length c0_0):=(blk_cell BK101.out 0).trans rfl
   have hcz16_1:w5.cell? ⟨gb101,1,none⟩ = some (.slice A0_1 l0_1.length c0_1):=(blk_cell BK101.out 1).trans rfl
   have hfz16_0:=blk_frozen BK101.out 0
   have hfz16_1:=blk_frozen BK101.out 1
   go_wp2_with (first|((with_reducible refine gate_callee (f:=51) rfl ?_);refine goesL_ (some 9) rfl rfl Try.func51 (by kernel_rfl) rfl #[.agg #[.slice A0_0 l0_0.length c0_0,.slice A0_1 l0_1.length c0_1],.int .i64 a1] rfl oF ?_;(with_reducible refine (q25.calls _ _ l0_0 _ _ l0_1 a1 false _ ?side1 ?side2 ?side3 ?side4 A6.out).mono ?_);(case side1=>exact cq (Kd.C_below HR0_0.out HB.out));(case side2=>exact HC0_0.out);(case side3=>exact cq (Kd.C_below HR0_1.out HB.out));(case side4=>exact HC0_1.out);rintro e w17 ⟨rfl,hb⟩;refine ⟨_,rfl,?_⟩;have n0_:=zk (blk_below (g:=gb101) (o:=.cells #[.slice A0_0 l0_0.length c0_0,.slice A0_1 l0_1.length c0_1] 24 (0,0)) (hq BK101.out) hb);have n1_:=zk (below_step (bg HB.out GE101 GE101) hb);clear BK101;clear HB;have BK101:=n0_;have HB:=n1_;clear n0_ n1_;(try clear hb);(try clear hb2);(try clear hk);(try clear hi)))
   go_meet
   case rel=>exact ⟨_,(true),oE,H',⟨by first|omega|exact Nat.le_refl _⟩,⟨hq BK101.out⟩,⟨bg HB.out GE101 GE101⟩⟩
 case rest =>
  clear HC4
  try clear c2
  try clear p2
  try clear c5
  try clear c7
  try clear c8
  try clear c8b0
  try clear c8b1
  try clear hcz12_0
  try clear hcz12_1
  try clear hcz14_0
  try clear hcz14_1
  try clear hcz16_0
  try clear hcz16_1
  try clear hcz9_0
  try clear hcz9_1
  try clear hfz12_0
  try clear hfz12_1
  try clear hfz14_0
  try clear hfz14_1
  try clear hfz16_0
  try clear hfz16_1
  try clear hfz9_0
  try clear hfz9_1
  obtain ⟨kq,x20_3,rfl,HA,HJ3,BK101,HB⟩:=hcut
  cases kq with
  | zero=>exact absurd HA.out (by simp [q31.j0])
  | succ kj3 =>
   have H:=HA.out
   clear HA
   simp only [q31.j0] at H
   by_cases c18:x20_3 = true
   ·subst c18
    have H1:(some false) = some r:=by rw [if_pos rfl] at H;exact H
    clear H
    have H:=H1
    clear H1
    obtain rfl:=Option.some.inj H
    go_wp2
    go_ret
    exact ⟨by first|rfl|(simp [errW_none,errW_some] <;> rfl)|(simp [*,errW_none,errW_some] <;> rfl),bg HB.out GE101 GE101⟩
   ·replace c18:=Bool.eq_false_iff.mpr c18
    subst c18
    have H1:(q31.l0 kj3 a1 a2 l0_0 l0_1) = some r:=by rw [if_neg (show ¬ (false = true) by decide)] at H;exact H
    clear H
    have H:=H1
    clear H1
    have H':=Aside0.mk H
    clear H
    go_wp2
    go_loopg [1] kj3 (fun kq v1 w'=>∃ (x1_2:Int),v1 = .int .i64 x1_2 ∧ Aside0 (q31.l0 kq x1_2 a2 l0_0 l0_1 = some r) ∧ Aside0 (kq ≤ kj3) ∧ Aside0 (w'.heap[gb101]? = some (.cells #[(.slice A0_0 l0_0.length c0_0),(.slice A0_1 l0_1.length c0_1)] 24 (0,0))) ∧ Aside0 (Below w.heap.size w w'))
    case atStart=>exact ⟨(a1),oE,H',⟨Nat.le_refl _⟩,⟨hq BK101.out⟩,⟨bg HB.out GE101 GE101⟩⟩
    case round =>
     clear H'
     try clear c1
     try clear c2
     try clear p2
     try clear c5
     try clear c7
     try clear c8
     try clear c8b0
     try clear c8b1
     try clear c18
     try clear hcz12_0
     try clear hcz12_1
     try clear hcz14_0
     try clear hcz14_1
     try clear hcz16_0
     try clear hcz16_1
     try clear hcz9_0
     try clear hcz9_1
     try clear hfz12_0
     try clear hfz12_1
     try clear hfz14_0
     try clear hfz14_1
     try clear hfz16_0
     try clear hfz16_1
     try clear hfz9_0
     try clear hfz9_1
     try clear p2
     obtain ⟨x1_2,rfl,HA,HK2,BK101,HB⟩:=hrel
     cases gk with
     | zero=>exact absurd HA.out (by simp [q31.l0])
     | succ k2 =>
      have H:=HA.out
      clear HA
      simp only [q31.l0] at H
      by_cases c19:x1_2 > a2
      ·rw [if_pos c19] at H
       have c19b0:decide (a2 < x1_2) = true:=decide_eq_true c19
       clear c19
       by_cases c20:0 ≤ x1_2
       ·rw [if_pos c20] at H
        have c20b0:decide (0 ≤ x1_2) = true:=decide_eq_true c20
        clear c20
        by_cases c21:x1_2 < (l0_1.length:Int)
        ·rw [if_pos c21] at H
         have c21b0:decide (x1_2 < (l0_1.length:Int)) = true:=decide_eq_true c21
         clear c21
         have H':=Aside0.mk H
         clear H
         have hcz22_0:wr.cell? ⟨gb101,0,none⟩ = some (.slice A0_0 l0_0.length c0_0):=(blk_cell BK101.out 0).trans rfl
         have hcz22_1:wr.cell? ⟨gb101,1,none⟩ = some (.slice A0_1 l0_1.length c0_1):=(blk_cell BK101.out 1).trans rfl
         have hfz22_0:=blk_frozen BK101.out 0
         have hfz22_1:=blk_frozen BK101.out 1
         have p104:0 ≤ (x1_2:Int):=oA
         have q104:x1_2 < (l0_1.length:Int):=oA
         obtain ⟨ad104,e104,hx104_0⟩:=Kd.at_int HR0_1.out x1_2 p104 q104
         cases e104
         replace hx104_0:=(HB.out.cell (World.block_lt_of_cell? w _ hx104_0)).trans hx104_0
         replace p104:=eq_true p104
         replace q104:=eq_true q104
         go_wp2
         go_roundg k2
         case measure=>have:=HJ3.out;have:=HK2.out;omega
         case rel=>exact ⟨(rd l0_1 x1_2),oE,H',⟨by have:=HJ3.out;have:=HK2.out;omega⟩,⟨hq BK101.out⟩,⟨bg HB.out GE101 GE101⟩⟩
        ·rw [if_neg c21] at H
         exact absurd H (by simp)
       ·rw [if_neg c20] at H
        exact absurd H (by simp)
      ·rw [if_neg c19] at H
       have c19b0:decide (a2 < x1_2) = false:=decide_eq_false c19
       clear c19
       obtain rfl:=Option.some.inj H
       go_wp2
       go_ret
       exact ⟨by first|rfl|(simp [errW_none,errW_some] <;> rfl)|(simp [*,errW_none,errW_some] <;> rfl),bg HB.out GE101 GE101⟩
def q40.f (a0:Int) (a1:Int):Option (Bool):=if a1 ≥ 0 then (if 0 ≤ a1 then (some ((Go.bits .and .u32 (shr .u32 a0 a1) 1) == 1)) else (none)) else (some false)
set_option maxHeartbeats 8000000 in
set_option maxRecDepth 100000 in
theorem q40.calls (a0:Int) (a1:Int) (r:Bool) (w:World) (h:q40.f a0 a1 = some r) :
  Calls Try.prog 58 #[.int .u32 a0,.int .i64 a1] w fun e w'=>e = .returned (.bool r) ∧ Drawn0 w w':=by
 have H:(if a1 ≥ 0 then (if 0 ≤ a1 then (some ((Go.bits .and .u32 (shr .u32 a0 a1) 1) == 1)) else (none)) else (some false)) = some r:=h
 clear h
 by_cases c3:a1 ≥ 0
 ·rw [if_pos c3] at H
  have c3b0:decide (0 ≤ a1) = true:=decide_eq_true c3
  clear c3
  by_cases c4:0 ≤ a1
  ·rw [if_pos c4] at H
   have c4b0:=eq_true c4
   have c4b1:decide (0 ≤ a1) = true:=decide_eq_true c4
   clear c4
   obtain ⟨ji5,hji5⟩:∃ j_:Int,(shr .u32 a0 a1) = j_:=⟨_,rfl⟩
   replace H:(some ((Go.bits .and .u32 (ji5) 1) == 1)) = some r:=by first|(rw [hji5] at H;exact H)|(simp only [hji5] at H ⊢;exact H)
   have hji5_:(a0 / 2 ^ min a1.toNat 32) = ji5:=hji5
   have hji5z:a1 ≤ 32 → (a0 / 2 ^ a1.toNat) = ji5:=shr_small hji5
   obtain rfl:=Option.some.inj H
   go_enter Try.func58,Try.ntmps58
   go_wp2
   go_ret
   exact ⟨by first|rfl|(simp;done)|(simp only [← hji5] <;> (first|rfl|simp))|(simp [*];done),by repeat (first|exact Drawn0.refl _|apply Drawn0.step)⟩
  ·rw [if_neg c4] at H
   exact absurd H (by simp)
 ·rw [if_neg c3] at H
  have c3b0:decide (0 ≤ a1) = false:=decide_eq_false c3
  clear c3
  obtain rfl:=Option.some.inj H
  go_enter Try.func58,Try.ntmps58
  go_wp2
  go_ret
  exact ⟨by first|rfl|(simp;done)|(simp [*];done),by repeat (first|exact Drawn0.refl _|apply Drawn0.step)⟩
def q33.l0:Nat → Int → Int → List Int → Int → Int → List Int → List Int → Option (List Int)
 | 0,_,_,_,_,_,_,_=>none
 | k + 1,x1,x2,x7,x11,x12,x102000,x102001=>if x12 < x11 then (if x12 = x2 then (q33.l0 k x1 x2 x7 x11 (wrap64 (x12 + 1)) x102000 x102001) else ((q40.f x1 x12).bind fun t102=>(if t102 = true then ((q31.f k x102000 x102001 x12 x2).bind fun t103=>(if t103 = true then (if x7.length < 17592186044416 then (q33.l0 k x1 x2 (x7 ++ [x12]) x11 (wrap64 (x12 + 1)) x102000 x102001) else (none)) else (q33.l0 k x1 x2 x7 x11 (wrap64 (x12 + 1)) x102000 x102001))) else (q33.l0 k x1 x2 x7 x11 (wrap64 (x12 + 1)) x102000 x102001)))) else (some x7)
def q33.f (k:Nat) (l0_0:List Int) (l0_1:List Int) (a1:Int) (a2:Int):Option (List Int):=q33.l0 k a1 a2 ([]:List Int) (l0_0.length:Int) 0 l0_0 l0_1
set_option maxHeartbeats 8000000 in
set_option maxRecDepth 100000 in
theorem q33.calls (k:Nat) (A0_0:Option Addr) (c0_0:Nat) (l0_0:List Int) (A0_1:Option Addr) (c0_1:Nat) (l0_1:List Int) (a1:Int) (a2:Int) (r:List Int) (w:World) (hr0_0:Kd.C (Kd.int .i64) w A0_0 l0_0.length l0_0) (hc0_0:l0_0.length ≤ c0_0) (hr0_1:Kd.C (Kd.int .i64) w A0_1 l0_1.length l0_1) (hc0_1:l0_1.length ≤ c0_1) (h:q33.f k l0_0 l0_1 a1 a2 = some r) :
  Calls Try.prog 49 #[.agg #[.slice A0_0 l0_0.length c0_0,.slice A0_1 l0_1.length c0_1],.int .u32 a1,.int .i64 a2] w fun e w'=>∃ v0_:Value,e = .returned (v0_) ∧ Kd.R (Kd.int .i64) 3 w' w.heap.size (fun _=>True) v0_ r ∧ Below w.heap.size w w':=by
 have hu24:=Try.underlying24
 have HR0_0:=Aside0.mk hr0_0
 have HC0_0:=Aside0.mk hc0_0
 clear hr0_0 hc0_0
 have HR0_1:=Aside0.mk hr0_1
 have HC0_1:=Aside0.mk hc0_1
 clear hr0_1 hc0_1
 have HB:=zk (Below.refl w.heap.size w)
 have H:(q33.l0 k a1 a2 ([]:List Int) (l0_0.length:Int) 0 l0_0 l0_1) = some r:=h
 clear h
 have H':=Aside0.mk H
 clear H
 go_enter Try.func49,Try.ntmps49
 go_wp2_with (first|((with_reducible refine gate_dst (N:=3) rfl ?_);refine box_event ?hg (N:=3) ?hd (cs:=#[.slice A0_0 l0_0.length c0_0,.slice A0_1 l0_1.length c0_1]) (t:=24) ?hr ?_;(case hd=>rfl);(case hg=>rfl);(case hr=>first|(go_simp;done)|(go_simp;rfl));intro gb101 hg w4 hbox hb;have n0_:=zk (below_step (bq HB.out) hb);have n1_:=zk (hbox);have n2_:=zk ((by rw [hg];exact (below_size (bq HB.out)):w.heap.size ≤ gb101));have n3_:=zk ((by rw [hg];exact (below_size (bq HB.out)):w.heap.size ≤ gb101));clear HB;have HB:=n0_;have BK101:=n1_;have GW101:=n2_;have GE101:=n3_;clear n0_ n1_ n2_ n3_;clear hb hbox hg;have hcz5_0:w4.cell? ⟨gb101,0,none⟩ = some (.slice A0_0 l0_0.length c0_0):=(blk_cell BK101.out 0).trans rfl;have hcz5_1:w4.cell? ⟨gb101,1,none⟩ = some (.slice A0_1 l0_1.length c0_1):=(blk_cell BK101.out 1).trans rfl;have hfz5_0:=blk_frozen BK101.out 0;have hfz5_1:=blk_frozen BK101.out 1))
 go_loopg [7,12] k (fun kq v7 v12 w'=>∃ (x7_1:List Int) (x12_1:Int),v12 = .int .i64 x12_1 ∧ Aside0 (q33.l0 kq a1 a2 x7_1 (l0_0.length:Int) x12_1 l0_0 l0_1 = some r) ∧ Aside0 (kq ≤ k) ∧ Aside0 (Kd.R (Kd.int .i64) 3 w' w.heap.size (fun _=>True) v7 x7_1) ∧ Aside0 (w'.heap[gb101]? = some (.cells #[(.slice A0_0 l0_0.length c0_0),(.slice A0_1 l0_1.length c0_1)] 24 (0,0))) ∧ Aside0 (Below w.heap.size w w'))
 case atStart=>exact ⟨(([]:List Int)),(0),oE,H',⟨Nat.le_refl _⟩,⟨by first|exact Kd.R_nil _ _ _ _ _|exact Kd.N_nil _ _ _ _ _|exact Kd.V_nil _ _ _ _ _|exact Kd.Q_nil _ _ _ _ _|exact Kd.S_nil _ _ _ _ _⟩,⟨hq BK101.out⟩,⟨bg HB.out GE101 GE101⟩⟩
 case round =>
  clear H'
  try clear p2
  try clear c4
  try clear hcz5_0
  try clear hcz5_1
  try clear hfz5_0
  try clear hfz5_1
  obtain ⟨x7_1,x12_1,rfl,HA,HK1,HO_7,BK101,HB⟩:=hrel
  cases gk with
  | zero=>exact absurd HA.out (by simp [q33.l0])
  | succ k1 =>
   have H:=HA.out
   clear HA
   simp only [q33.l0] at H
   by_cases c6:x12_1 < (l0_0.length:Int)
   ·rw [if_pos c6] at H
    have c6b0:decide (x12_1 < (l0_0.length:Int)) = true:=decide_eq_true c6
    clear c6
    by_cases c7:x12_1 = a2
    ·rw [if_pos c7] at H
     have c7b0:(x12_1 == a2) = true:=beq_iff_eq.mpr c7
     have c7b1:(x12_1 != a2) = false:=bne_eq_false_iff_eq.mpr c7
     clear c7
     have H':=Aside0.mk H
     clear H
     go_wp2
     go_roundg k1
     case measure=>have:=HK1.out;omega
     case rel=>exact ⟨(x7_1),(wrap64 (x12_1 + 1)),oE,H',⟨by have:=HK1.out;omega⟩,⟨rq HO_7.out⟩,⟨hq BK101.out⟩,⟨bg HB.out GE101 GE101⟩⟩
    ·rw [if_neg c7] at H
     have c7b0:(x12_1 == a2) = false:=beq_eq_false_iff_ne.mpr c7
     have c7b1:(x12_1 != a2) = true:=bne_iff_ne.mpr c7
     replace H:=Option.bind_eq_some_iff.mp H
     obtain ⟨t102,A80,H⟩:=H
     replace H:(if t102 = true then ((q31.f k1 l0_0 l0_1 x12_1 a2).bind fun t103=>(if t103 = true then (if x7_1.length < 17592186044416 then (q33.l0 k1 a1 a2 (x7_1 ++ [x12_1]) (l0_0.length:Int) (wrap64 (x12_1 + 1)) l0_0 l0_1) else (none)) else (q33.l0 k1 a1 a2 x7_1 (l0_0.length:Int) (wrap64 (x12_1 + 1)) l0_0 l0_1))) else (q33.l0 k1 a1 a2 x7_1 (l0_0.length:Int) (wrap64 (x12_1 + 1)) l0_0 l0_1)) = some r:=H
     have A8:=Aside0.mk A80
     clear A80
     by_cases c9:t102 = true
     ·subst c9
      have H1:((q31.f k1 l0_0 l0_1 x12_1 a2).bind fun t103=>(if t103 = true then (if x7_1.length < 17592186044416 then (q33.l0 k1 a1 a2 (x7_1 ++ [x12_1]) (l0_0.length:Int) (wrap64 (x12_1 + 1)) l0_0 l0_1) else (none)) else (q33.l0 k1 a1 a2 x7_1 (l0_0.length:Int) (wrap64 (x12_1 + 1)) l0_0 l0_1))) = some r:=by rw [if_pos rfl] at H;exact H
      clear H
      have H:=H1
      clear H1
      replace H:=Option.bind_eq_some_iff.mp H
      obtain ⟨t103,A100,H⟩:=H
      replace H:(if t103 = true then (if x7_1.length < 17592186044416 then (q33.l0 k1 a1 a2 (x7_1 ++ [x12_1]) (l0_0.length:Int) (wrap64 (x12_1 + 1)) l0_0 l0_1) else (none)) else (q33.l0 k1 a1 a2 x7_1 (l0_0.length:Int) (wrap64 (x12_1 + 1)) l0_0 l0_1)) = some r:=H
      have A10:=Aside0.mk A100
      clear A100
      by_cases c11:t103 = true
      ·subst c11
       have H1:(if x7_1.length < 17592186044416 then (q33.l0 k1 a1 a2 (x7_1 ++ [x12_1]) (l0_0.length:Int) (wrap64 (x12_1 + 1)) l0_0 l0_1) else (none)) = some r:=by rw [if_pos rfl] at H;exact H
       clear H
       have H:=H1
       clear H1
       by_cases c12:x7_1.length < 17592186044416
       ·rw [if_pos c12] at H
        have LMc12:=Aside0.mk c12
        clear c12
        obtain ⟨y104,hy104⟩:∃ y_:List Int,y_ = (x7_1 ++ [x12_1]):=⟨_,rfl⟩
        replace H:(q33.l0 k1 a1 a2 y104 (l0_0.length:Int) (wrap64 (x12_1 + 1)) l0_0 l0_1) = some r:=by first|(rw [hy104];with_reducible exact H)|(have H2_:=(Option.bind_some _ _).symm.trans H;rw [hy104];with_reducible exact H2_)|(have H2_:=(Option.bind_some _ _).symm.trans H;with_reducible exact H2_)|with_reducible exact H|(rw [hy104];exact H)|exact H
        have Ny104:=Aside0.mk hy104
        clear hy104
        have H':=Aside0.mk H
        clear H
        go_wp2_with (first|(go_at_call 58;(with_reducible refine (q40.calls a1 x12_1 true _ A8.out).mono ?_);rintro e w' ⟨rfl,⟨nd,rfl⟩⟩;have hcz13_0:wr.cell? ⟨gb101,0,none⟩ = some (.slice A0_0 l0_0.length c0_0):=(blk_cell BK101.out 0).trans rfl;have hcz13_1:wr.cell? ⟨gb101,1,none⟩ = some (.slice A0_1 l0_1.length c0_1):=(blk_cell BK101.out 1).trans rfl;have hfz13_0:=blk_frozen BK101.out 0;have hfz13_1:=blk_frozen BK101.out 1)|(go_at_call 27;(with_reducible refine (q31.calls k1 _ _ l0_0 _ _ l0_1 x12_1 a2 true _ ?side1 ?side2 ?side3 ?side4 A10.out).mono ?_);(case side1=>exact (Kd.C_below HR0_0.out (bg HB.out GE101 GE101)));(case side2=>exact HC0_0.out);(case side3=>exact (Kd.C_below HR0_1.out (bg HB.out GE101 GE101)));(case side4=>exact HC0_1.out);rintro e w14 ⟨rfl,hb⟩;have n0_:=zk (Kd.R_below (rq HO_7.out) hb);have n1_:=zk (blk_below (g:=gb101) (o:=.cells #[.slice A0_0 l0_0.length c0_0,.slice A0_1 l0_1.length c0_1] 24 (0,0)) (hq BK101.out) hb);have n2_:=zk (below_step (bg HB.out GE101 GE101) hb);clear HO_7;clear BK101;clear HB;have HO_7:=n0_;have BK101:=n1_;have HB:=n2_;clear n0_ n1_ n2_;(try clear hb);(try clear hb2);(try clear hk);(try clear hi))|((with_reducible refine gate_builtin (b:=.append) (xs:=#[.tmp 29,.tmp 31]) rfl ?_);at_builtin;refine Kd.R_append (Kd.int .i64) (w0:=w) w.heap.size rfl (.tmp 29) (.tmp 31) 22 3 (.int .i64 0) 8 rfl Try.underlying22 info3 rfl (by decide) (by omega) u7 x7_1 x12_1 [.int .i64 x12_1] (fun _=>True) (fun _=>False) rfl rfl ?aP (fun _ hk=>hk.elim) ?aF ?aO ?aB ?aS ?aL ?_;(case aP=>exact rfl);(case aB=>exact (bg HB.out GE101 GE101));(case aF=>exact (fun _ _=>trivial));(case aO=>exact (rq HO_7.out));(case aS=>exact (below_size (bg HB.out GE101 GE101)));(case aL=>have:=LMc12.out;omega);intro v105 w15 ho hb hg hat;rw [← Ny104.out] at ho;have n0_:=zk (blk_grown (g:=gb101) (o:=.cells #[.slice A0_0 l0_0.length c0_0,.slice A0_1 l0_1.length c0_1] 24 (0,0)) (hq BK101.out) hg (Kd.R_ne HO_7.out BK101.out (by decide)));have n1_:=zk (hb);have n2_:=zk (ho);clear BK101;clear HB;clear HO_7;have BK101:=n0_;have HB:=n1_;have HO106:=n2_;clear n0_ n1_ n2_;clear ho hb hg hat))
        go_roundg k1
        case measure=>have:=HK1.out;omega
        case rel=>exact ⟨(y104),(wrap64 (x12_1 + 1)),oE,H',⟨by have:=HK1.out;omega⟩,⟨rq HO106.out⟩,⟨hq BK101.out⟩,⟨bg HB.out GE101 GE101⟩⟩
       ·rw [if_neg c12] at H
        exact absurd H (by simp)
      ·replace c11:=Bool.eq_false_iff.mpr c11
       subst c11
       have H1:(q33.l0 k1 a1 a2 x7_1 (l0_0.length:Int) (wrap64 (x12_1 + 1)) l0_0 l0_1) = some r:=by rw [if_neg (show ¬ (false = true) by decide)] at H;exact H
       clear H
       have H:=H1
       clear H1
       have H':=Aside0.mk H
       clear H
       go_wp2_with (first|(go_at_call 58;(with_reducible refine (q40.calls a1 x12_1 true _ A8.out).mono ?_);rintro e w' ⟨rfl,⟨nd,rfl⟩⟩;have hcz16_0:wr.cell? ⟨gb101,0,none⟩ = some (.slice A0_0 l0_0.length c0_0):=(blk_cell BK101.out 0).trans rfl;have hcz16_1:wr.cell? ⟨gb101,1,none⟩ = some (.slice A0_1 l0_1.length c0_1):=(blk_cell BK101.out 1).trans rfl;have hfz16_0:=blk_frozen BK101.out 0;have hfz16_1:=blk_frozen BK101.out 1)|(go_at_call 27;(with_reducible refine (q31.calls k1 _ _ l0_0 _ _ l0_1 x12_1 a2 false _ ?side1 ?side2 ?side3 ?side4 A10.out).mono ?_);(case side1=>exact (Kd.C_below HR0_0.out (bg HB.out GE101 GE101)));(case side2=>exact HC0_0.out);(case side3=>exact (Kd.C_below HR0_1.out (bg HB.out GE101 GE101)));(case side4=>exact HC0_1.out);rintro e w17 ⟨rfl,hb⟩;have n0_:=zk (Kd.R_below (rq HO_7.out) hb);have n1_:=zk (blk_below (g:=gb101) (o:=.cells #[.slice A0_0 l0_0.length c0_0,.slice A0_1 l0_1.length c0_1] 24 (0,0)) (hq BK101.out) hb);have n2_:=zk (below_step (bg HB.out GE101 GE101) hb);clear HO_7;clear BK101;clear HB;have HO_7:=n0_;have BK101:=n1_;have HB:=n2_;clear n0_ n1_ n2_;(try clear hb);(try clear hb2);(try clear hk);(try clear hi)))
       go_roundg k1
       case measure=>have:=HK1.out;omega
       case rel=>exact ⟨(x7_1),(wrap64 (x12_1 + 1)),oE,H',⟨by have:=HK1.out;omega⟩,⟨rq HO_7.out⟩,⟨hq BK101.out⟩,⟨bg HB.out GE101 GE101⟩⟩
     ·replace c9:=Bool.eq_false_iff.mpr c9
      subst c9
      have H1:(q33.l0 k1 a1 a2 x7_1 (l0_0.length:Int) (wrap64 (x12_1 + 1)) l0_0 l0_1) = some r:=by rw [if_neg (show ¬ (false = true) by decide)] at H;exact H
      clear H
      have H:=H1
      clear H1
      have H':=Aside0.mk H
      clear H
      go_wp2_with (first|(go_at_call 58;(with_reducible refine (q40.calls a1 x12_1 false _ A8.out).mono ?_);rintro e w' ⟨rfl,⟨nd,rfl⟩⟩))
      go_roundg k1
      case measure=>have:=HK1.out;omega
      case rel=>exact ⟨(x7_1),(wrap64 (x12_1 + 1)),oE,H',⟨by have:=HK1.out;omega⟩,⟨rq HO_7.out⟩,⟨hq BK101.out⟩,⟨bg HB.out GE101 GE101⟩⟩
   ·rw [if_neg c6] at H
    have c6b0:decide (x12_1 < (l0_0.length:Int)) = false:=decide_eq_false c6
    clear c6
    obtain rfl:=Option.some.inj H
    go_wp2
    go_ret
    exact ⟨_,by first|rfl|(simp [errW_none,errW_some] <;> rfl)|(simp [*,errW_none,errW_some] <;> rfl),rq HO_7.out,bg HB.out GE101 GE101⟩
def q34.l0:Nat → List Int → List Int → Int → Int → Option (List Int)
 | 0,_,_,_,_=>none
 | k + 1,x7,x8,x15,x16=>if x16 < x15 then (if 0 ≤ (wrap64 ((wrap64 ((x8.length:Int) - 1)) - x16)) then (if (wrap64 ((wrap64 ((x8.length:Int) - 1)) - x16)) < (x8.length:Int) then (if x7.length < 17592186044416 then (q34.l0 k (x7 ++ [rd x8 (wrap64 ((wrap64 ((x8.length:Int) - 1)) - x16))]) x8 x15 (wrap64 (x16 + 1))) else (none)) else (none)) else (none)) else (some x7)
def q34.f (k:Nat) (l0_0:List Int) (l0_1:List Int) (a1:Int) (a2:Int):Option (List Int):=(q33.f k l0_0 l0_1 a1 a2).bind fun t102=>(q34.l0 k ([]:List Int) t102 (t102.length:Int) 0)
set_option maxHeartbeats 8000000 in
set_option maxRecDepth 100000 in
theorem q34.calls (k:Nat) (A0_0:Option Addr) (c0_0:Nat) (l0_0:List Int) (A0_1:Option Addr) (c0_1:Nat) (l0_1:List Int) (a1:Int) (a2:Int) (r:List Int) (w:World) (hr0_0:Kd.C (Kd.int .i64) w A0_0 l0_0.length l0_0) (hc0_0:l0_0.length ≤ c0_0) (hr0_1:Kd.C (Kd.int .i64) w A0_1 l0_1.length l0_1) (hc0_1:l0_1.length ≤ c0_1) (h:q34.f k l0_0 l0_1 a1 a2 = some r) :
  Calls Try.prog 23 #[.agg #[.slice A0_0 l0_0.length c0_0,.slice A0_1 l0_1.length c0_1],.int .u32 a1,.int .i64 a2] w fun e w'=>∃ v0_:Value,e = .returned (v0_) ∧ Kd.R (Kd.int .i64) 3 w' w.heap.size (fun _=>True) v0_ r ∧ Below w.heap.size w w':=by
 have hu24:=Try.underlying24
 have HR0_0:=Aside0.mk hr0_0
 have HC0_0:=Aside0.mk hc0_0
 clear hr0_0 hc0_0
 have HR0_1:=Aside0.mk hr0_1
 have HC0_1:=Aside0.mk hc0_1
 clear hr0_1 hc0_1
 have HB:=zk (Below.refl w.heap.size w)
 have H:((q33.f k l0_0 l0_1 a1 a2).bind fun t102=>(q34.l0 k ([]:List Int) t102 (t102.length:Int) 0)) = some r:=h
 clear h
 replace H:=Option.bind_eq_some_iff.mp H
 obtain ⟨t102,A40,H⟩:=H
 replace H:(q34.l0 k ([]:List Int) t102 (t102.length:Int) 0) = some r:=H
 have A4:=Aside0.mk A40
 clear A40
 have H':=Aside0.mk H
 clear H
 go_enter Try.func23,Try.ntmps23
 go_wp2_with (first|((with_reducible refine gate_dst (N:=3) rfl ?_);refine box_event ?hg (N:=3) ?hd (cs:=#[.slice A0_0 l0_0.length c0_0,.slice A0_1 l0_1.length c0_1]) (t:=24) ?hr ?_;(case hd=>rfl);(case hg=>rfl);(case hr=>first|(go_simp;done)|(go_simp;rfl));intro gb101 hg w5 hbox hb;have n0_:=zk (below_step (bq HB.out) hb);have n1_:=zk (hbox);have n2_:=zk ((by rw [hg];exact (below_size (bq HB.out)):w.heap.size ≤ gb101));have n3_:=zk ((by rw [hg];exact (below_size (bq HB.out)):w.heap.size ≤ gb101));clear HB;have HB:=n0_;have BK101:=n1_;have GW101:=n2_;have GE101:=n3_;clear n0_ n1_ n2_ n3_;clear hb hbox hg;have hcz6_0:w5.cell? ⟨gb101,0,none⟩ = some (.slice A0_0 l0_0.length c0_0):=(blk_cell BK101.out 0).trans rfl;have hcz6_1:w5.cell? ⟨gb101,1,none⟩ = some (.slice A0_1 l0_1.length c0_1):=(blk_cell BK101.out 1).trans rfl;have hfz6_0:=blk_frozen BK101.out 0;have hfz6_1:=blk_frozen BK101.out 1)|((with_reducible refine gate_callee (f:=49) rfl ?_);refine goesL_ (some 13) rfl rfl Try.func49 (by kernel_rfl) rfl #[.agg #[.slice A0_0 l0_0.length c0_0,.slice A0_1 l0_1.length c0_1],.int .u32 a1,.int .i64 a2] rfl oF ?_;(with_reducible refine (q33.calls k _ _ l0_0 _ _ l0_1 a1 a2 t102 _ ?side1 ?side2 ?side3 ?side4 A4.out).mono ?_);(case side1=>exact cq (Kd.C_below HR0_0.out HB.out));(case side2=>exact HC0_0.out);(case side3=>exact cq (Kd.C_below HR0_1.out HB.out));(case side4=>exact HC0_1.out);rintro e w7 ⟨v103,rfl,ho0,hb⟩;refine ⟨_,rfl,?_⟩;have n0_:=zk (Kd.R_lower ho0 (below_size (bg HB.out GE101 GE101)));have n1_:=zk (blk_below (g:=gb101) (o:=.cells #[.slice A0_0 l0_0.length c0_0,.slice A0_1 l0_1.length c0_1] 24 (0,0)) (hq BK101.out) hb);have n2_:=zk (below_step (bg HB.out GE101 GE101) hb);clear BK101;clear HB;have HO104:=n0_;have BK101:=n1_;have HB:=n2_;clear n0_ n1_ n2_;(try clear hb);(try clear hb2);(try clear hk);(try clear hi);(try clear ho0);obtain ⟨Ao8,co8,eo8⟩:=Kd.R_slice HO104.out;subst eo8))
 go_loopg [7,16] k (fun kq v7 v16 w'=>∃ (x7_1:List Int) (x16_1:Int),v16 = .int .i64 x16_1 ∧ Aside0 (q34.l0 kq x7_1 t102 (t102.length:Int) x16_1 = some r) ∧ Aside0 (kq ≤ k) ∧ Aside0 (Kd.R (Kd.int .i64) 3 w' w.heap.size (fun k_=>some k_ ≠ ((.slice Ao8 t102.length co8):Value).ownBlock) v7 x7_1) ∧ Aside0 (Kd.R (Kd.int .i64) 3 w' w.heap.size (fun k_=>some k_ ≠ (v7:Value).ownBlock) (.slice Ao8 t102.length co8) t102) ∧ Aside0 (w'.heap[gb101]? = some (.cells #[(.slice A0_0 l0_0.length c0_0),(.slice A0_1 l0_1.length c0_1)] 24 (0,0))) ∧ Aside0 (Below w.heap.size w w'))
 case atStart=>exact ⟨(([]:List Int)),(0),oE,H',⟨Nat.le_refl _⟩,⟨by first|exact Kd.R_nil _ _ _ _ _|exact Kd.N_nil _ _ _ _ _|exact Kd.V_nil _ _ _ _ _|exact Kd.Q_nil _ _ _ _ _|exact Kd.S_nil _ _ _ _ _⟩,⟨rq (Kd.R_mono HO104.out (fun _ hk=>(by simp [Value.ownBlock])))⟩,⟨hq BK101.out⟩,⟨bg HB.out GE101 GE101⟩⟩
 case round =>
  clear H'
  try clear c2
  try clear p2
  try clear c4
  try clear hcz6_0
  try clear hcz6_1
  try clear hfz6_0
  try clear hfz6_1
  obtain ⟨x7_1,x16_1,rfl,HA,HK1,HO_7,HO_8,BK101,HB⟩:=hrel
  cases gk with
  | zero=>exact absurd HA.out (by simp [q34.l0])
  | succ k1 =>
   have H:=HA.out
   clear HA
   simp only [q34.l0] at H
   by_cases c9:x16_1 < (t102.length:Int)
   ·rw [if_pos c9] at H
    have c9b0:decide (x16_1 < (t102.length:Int)) = true:=decide_eq_true c9
    clear c9
    obtain ⟨ji10,hji10⟩:∃ j_:Int,(wrap64 ((wrap64 ((t102.length:Int) - 1)) - x16_1)) = j_:=⟨_,rfl⟩
    replace H:(if 0 ≤ (ji10) then (if (ji10) < (t102.length:Int) then (if x7_1.length < 17592186044416 then (q34.l0 k1 (x7_1 ++ [rd t102 (ji10)]) t102 (t102.length:Int) (wrap64 (x16_1 + 1))) else (none)) else (none)) else (none)) = some r:=by first|(rw [hji10] at H;exact H)|(simp only [hji10] at H ⊢;exact H)
    have hji10w:(IntKind.i64.wrap ((wrap64 ((t102.length:Int) - 1)) - x16_1)) = ji10:=(i64_w _).trans hji10
    by_cases c11:0 ≤ (ji10)
    ·rw [if_pos c11] at H
     have c11b0:decide (0 ≤ (ji10)) = true:=decide_eq_true c11
     clear c11
     by_cases c12:(ji10) < (t102.length:Int)
     ·rw [if_pos c12] at H
      have c12b0:decide ((ji10) < (t102.length:Int)) = true:=decide_eq_true c12
      clear c12
      by_cases c13:x7_1.length < 17592186044416
      ·rw [if_pos c13] at H
       have LMc13:=Aside0.mk c13
       clear c13
       obtain ⟨y106,hy106⟩:∃ y_:List Int,y_ = (x7_1 ++ [rd t102 (ji10)]):=⟨_,rfl⟩
       replace H:(q34.l0 k1 y106 t102 (t102.length:Int) (wrap64 (x16_1 + 1))) = some r:=by first|(rw [hy106];with_reducible exact H)|(have H2_:=(Option.bind_some _ _).symm.trans H;rw [hy106];with_reducible exact H2_)|(have H2_:=(Option.bind_some _ _).symm.trans H;with_reducible exact H2_)|with_reducible exact H|(rw [hy106];exact H)|exact H
       have Ny106:=Aside0.mk hy106
       clear hy106
       have H':=Aside0.mk H
       clear H
       have p105:0 ≤ ((ji10):Int):=oA
       have q105:(ji10) < (t102.length:Int):=oA
       obtain ⟨ad105,e105,hx105_0⟩:=Kd.at_int (Kd.R_reads' HO_8.out).2.2 (ji10) p105 q105
       cases e105
       replace p105:=eq_true p105
       replace q105:=eq_true q105
       go_wp2_with (first|((with_reducible refine gate_builtin (b:=.append) (xs:=#[.tmp 19,.tmp 28]) rfl ?_);at_builtin;refine Kd.R_append (Kd.int .i64) (w0:=w) w.heap.size rfl (.tmp 19) (.tmp 28) 22 3 (.int .i64 0) 8 rfl Try.underlying22 info3 rfl (by decide) (by omega) u7 x7_1 (rd t102 (ji10)) [.int .i64 (rd t102 (ji10))] (fun k_=>some k_ ≠ (.slice (some ad105) t102.length co8:Value).ownBlock) (fun _=>False) rfl rfl ?aP (fun _ hk=>hk.elim) ?aF ?aO ?aB ?aS ?aL ?_;(case aP=>exact rfl);(case aB=>exact (bg HB.out GE101 GE101));(case aF=>exact (fun k_ hk=>Kd.fresh' (Kd.R_lt (rq HO_8.out)) k_ hk));(case aO=>exact (rq HO_7.out));(case aS=>exact (below_size (bg HB.out GE101 GE101)));(case aL=>have:=LMc13.out;omega);intro v107 w14 ho hb hg hat;rw [← Ny106.out] at ho;have n0_:=zk (Kd.R_after (ok:=(fun _=>True)) (rq (Kd.R_mono HO_8.out (fun _ hk=>⟨trivial,hk⟩))) hg hat);have n1_:=zk (blk_grown (g:=gb101) (o:=.cells #[.slice A0_0 l0_0.length c0_0,.slice A0_1 l0_1.length c0_1] 24 (0,0)) (hq BK101.out) hg (Kd.R_ne HO_7.out BK101.out (by decide)));have n2_:=zk (hb);have n3_:=zk (ho);clear HO_8;clear BK101;clear HB;clear HO_7;have HO_8:=n0_;have BK101:=n1_;have HB:=n2_;have HO108:=n3_;clear n0_ n1_ n2_ n3_;clear ho hb hg hat))
       go_roundg k1
       case measure=>have:=HK1.out;omega
       case rel=>exact ⟨(y106),(wrap64 (x16_1 + 1)),oE,(by first|exact H'|exact ⟨by simp only [hji10];exact H'.out⟩),⟨by have:=HK1.out;omega⟩,⟨rq HO108.out⟩,⟨rq (Kd.R_mono HO_8.out (fun _ hk=>hk.2))⟩,⟨hq BK101.out⟩,⟨bg HB.out GE101 GE101⟩⟩
      ·rw [if_neg c13] at H
       exact absurd H (by simp)
     ·rw [if_neg c12] at H
      exact absurd H (by simp)
    ·rw [if_neg c11] at H
     exact absurd H (by simp)
   ·rw [if_neg c9] at H
    have c9b0:decide (x16_1 < (t102.length:Int)) = false:=decide_eq_false c9
    clear c9
    obtain rfl:=Option.some.inj H
    go_wp2
    go_ret
    exact ⟨_,by first|rfl|(simp [errW_none,errW_some] <;> rfl)|(simp [*,errW_none,errW_some] <;> rfl),rq (Kd.R_mono HO_7.out (fun _ hk=>trivial)),bg HB.out GE101 GE101⟩
def q38.l0:Nat → Int → List Int → List Int → Int → Int → Option (List Int)
 | 0,_,_,_,_,_=>none
 | k + 1,x1,x5,x9,x10,x11=>if x11 < x10 then (if 0 ≤ x11 then (if x11 < (x9.length:Int) then (if (rd x9 x11) = x1 then (if x5.length < 17592186044416 then (q38.l0 k x1 (x5 ++ [x11]) x9 x10 (wrap64 (x11 + 1))) else (none)) else (q38.l0 k x1 x5 x9 x10 (wrap64 (x11 + 1)))) else (none)) else (none)) else (some x5)
def q38.f (k:Nat) (l0_0:List Int) (l0_1:List Int) (a1:Int):Option (List Int):=q38.l0 k a1 ([]:List Int) l0_1 (l0_1.length:Int) 0
set_option maxHeartbeats 8000000 in
set_option maxRecDepth 100000 in
theorem q38.calls (k:Nat) (A0_0:Option Addr) (c0_0:Nat) (l0_0:List Int) (A0_1:Option Addr) (c0_1:Nat) (l0_1:List Int) (a1:Int) (r:List Int) (w:World) (hr0_0:Kd.C (Kd.int .i64) w A0_0 l0_0.length l0_0) (hc0_0:l0_0.length ≤ c0_0) (hr0_1:Kd.C (Kd.int .i64) w A0_1 l0_1.length l0_1) (hc0_1:l0_1.length ≤ c0_1) (h:q38.f k l0_0 l0_1 a1 = some r) :
  Calls Try.prog 25 #[.agg #[.slice A0_0 l0_0.length c0_0,.slice A0_1 l0_1.length c0_1],.int .i64 a1] w fun e w'=>∃ v0_:Value,e = .returned (v0_) ∧ Kd.R (Kd.int .i64) 3 w' w.heap.size (fun _=>True) v0_ r ∧ Below w.heap.size w w':=by
 have hu24:=Try.underlying24
 have HR0_0:=Aside0.mk hr0_0
 have HC0_0:=Aside0.mk hc0_0
 clear hr0_0 hc0_0
 have HR0_1:=Aside0.mk hr0_1
 have HC0_1:=Aside0.mk hc0_1
 clear hr0_1 hc0_1
 have HB:=zk (Below.refl w.heap.size w)
 have H:(q38.l0 k a1 ([]:List Int) l0_1 (l0_1.length:Int) 0) = some r:=h
 clear h
 have H':=Aside0.mk H
 clear H
 go_enter Try.func25,Try.ntmps25
 go_wp2_with (first|((with_reducible refine gate_dst (N:=2) rfl ?_);refine box_event ?hg (N:=2) ?hd (cs:=#[.slice A0_0 l0_0.length c0_0,.slice A0_1 l0_1.length c0_1]) (t:=24) ?hr ?_;(case hd=>rfl);(case hg=>rfl);(case hr=>first|(go_simp;done)|(go_simp;rfl));intro gb101 hg w3 hbox hb;have n0_:=zk (below_step (bq HB.out) hb);have n1_:=zk (hbox);have n2_:=zk ((by rw [hg];exact (below_size (bq HB.out)):w.heap.size ≤ gb101));have n3_:=zk ((by rw [hg];exact (below_size (bq HB.out)):w.heap.size ≤ gb101));clear HB;have HB:=n0_;have BK101:=n1_;have GW101:=n2_;have GE101:=n3_;clear n0_ n1_ n2_ n3_;clear hb hbox hg;have hcz4_0:w3.cell? ⟨gb101,0,none⟩ = some (.slice A0_0 l0_0.length c0_0):=(blk_cell BK101.out 0).trans rfl;have hcz4_1:w3.cell? ⟨gb101,1,none⟩ = some (.slice A0_1 l0_1.length c0_1):=(blk_cell BK101.out 1).trans rfl;have hfz4_0:=blk_frozen BK101.out 0;have hfz4_1:=blk_frozen BK101.out 1))
 go_loopg [5,11] k (fun kq v5 v11 w'=>∃ (x5_1:List Int) (x11_1:Int),v11 = .int .i64 x11_1 ∧ Aside0 (q38.l0 kq a1 x5_1 l0_1 (l0_1.length:Int) x11_1 = some r) ∧ Aside0 (kq ≤ k) ∧ Aside0 (Kd.R (Kd.int .i64) 3 w' w.heap.size (fun _=>True) v5 x5_1) ∧ Aside0 (w'.heap[gb101]? = some (.cells #[(.slice A0_0 l0_0.length c0_0),(.slice A0_1 l0_1.length c0_1)] 24 (0,0))) ∧ Aside0 (Below w.heap.size w w'))
 case atStart=>exact ⟨(([]:List Int)),(0),oE,H',⟨Nat.le_refl _⟩,⟨by first|exact Kd.R_nil _ _ _ _ _|exact Kd.N_nil _ _ _ _ _|exact Kd.V_nil _ _ _ _ _|exact Kd.Q_nil _ _ _ _ _|exact Kd.S_nil _ _ _ _ _⟩,⟨hq BK101.out⟩,⟨bg HB.out GE101 GE101⟩⟩
 case round =>
  clear H'
  try clear c2
  try clear p2
  try clear hcz4_0
  try clear hcz4_1
  try clear hfz4_0
  try clear hfz4_1
  obtain ⟨x5_1,x11_1,rfl,HA,HK1,HO_5,BK101,HB⟩:=hrel
  cases gk with
  | zero=>exact absurd HA.out (by simp [q38.l0])
  | succ k1 =>
   have H:=HA.out
   clear HA
   simp only [q38.l0] at H
   by_cases c5:x11_1 < (l0_1.length:Int)
   ·rw [if_pos c5] at H
    have c5b0:decide (x11_1 < (l0_1.length:Int)) = true:=decide_eq_true c5
    clear c5
    by_cases c6:0 ≤ x11_1
    ·rw [if_pos c6] at H
     have c6b0:decide (0 ≤ x11_1) = true:=decide_eq_true c6
     clear c6
     by_cases c7:x11_1 < (l0_1.length:Int)
     ·rw [if_pos c7] at H
      have c7b0:decide (x11_1 < (l0_1.length:Int)) = true:=decide_eq_true c7
      clear c7
      by_cases c8:(rd l0_1 x11_1) = a1
      ·rw [if_pos c8] at H
       have c8b0:((rd l0_1 x11_1) == a1) = true:=beq_iff_eq.mpr c8
       have c8b1:((rd l0_1 x11_1) != a1) = false:=bne_eq_false_iff_eq.mpr c8
       clear c8
       by_cases c9:x5_1.length < 17592186044416
       ·rw [if_pos c9] at H
        have LMc9:=Aside0.mk c9
        clear c9
        obtain ⟨y103,hy103⟩:∃ y_:List Int,y_ = (x5_1 ++ [x11_1]):=⟨_,rfl⟩
        replace H:(q38.l0 k1 a1 y103 l0_1 (l0_1.length:Int) (wrap64 (x11_1 + 1))) = some r:=by first|(rw [hy103];with_reducible exact H)|(have H2_:=(Option.bind_some _ _).symm.trans H;rw [hy103];with_reducible exact H2_)|(have H2_:=(Option.bind_some _ _).symm.trans H;with_reducible exact H2_)|with_reducible exact H|(rw [hy103];exact H)|exact H
        have Ny103:=Aside0.mk hy103
        clear hy103
        have H':=Aside0.mk H
        clear H
        have p102:0 ≤ (x11_1:Int):=oA
        have q102:x11_1 < (l0_1.length:Int):=oA
        obtain ⟨ad102,e102,hx102_0⟩:=Kd.at_int HR0_1.out x11_1 p102 q102
        cases e102
        replace hx102_0:=(HB.out.cell (World.block_lt_of_cell? w _ hx102_0)).trans hx102_0
        replace p102:=eq_true p102
        replace q102:=eq_true q102
        go_wp2_with (first|((with_reducible refine gate_builtin (b:=.append) (xs:=#[.tmp 19,.tmp 21]) rfl ?_);at_builtin;refine Kd.R_append (Kd.int .i64) (w0:=w) w.heap.size rfl (.tmp 19) (.tmp 21) 22 3 (.int .i64 0) 8 rfl Try.underlying22 info3 rfl (by decide) (by omega) u5 x5_1 x11_1 [.int .i64 x11_1] (fun _=>True) (fun _=>False) rfl rfl ?aP (fun _ hk=>hk.elim) ?aF ?aO ?aB ?aS ?aL ?_;(case aP=>exact rfl);(case aB=>exact (bg HB.out GE101 GE101));(case aF=>exact (fun _ _=>trivial));(case aO=>exact (rq HO_5.out));(case aS=>exact (below_size (bg HB.out GE101 GE101)));(case aL=>have:=LMc9.out;omega);intro v104 w10 ho hb hg hat;rw [← Ny103.out] at ho;have n0_:=zk (blk_grown (g:=gb101) (o:=.cells #[.slice A0_0 l0_0.length c0_0,.slice (some ad102) l0_1.length c0_1] 24 (0,0)) (hq BK101.out) hg (Kd.R_ne HO_5.out BK101.out (by decide)));have n1_:=zk (hb);have n2_:=zk (ho);clear BK101;clear HB;clear HO_5;have BK101:=n0_;have HB:=n1_;have HO105:=n2_;clear n0_ n1_ n2_;clear ho hb hg hat))
        go_roundg k1
        case measure=>have:=HK1.out;omega
        case rel=>exact ⟨(y103),(wrap64 (x11_1 + 1)),oE,H',⟨by have:=HK1.out;omega⟩,⟨rq HO105.out⟩,⟨hq BK101.out⟩,⟨bg HB.out GE101 GE101⟩⟩
       ·rw [if_neg c9] at H
        exact absurd H (by simp)
      ·rw [if_neg c8] at H
       have c8b0:((rd l0_1 x11_1) == a1) = false:=beq_eq_false_iff_ne.mpr c8
       have c8b1:((rd l0_1 x11_1) != a1) = true:=bne_iff_ne.mpr c8
       have H':=Aside0.mk H
       clear H
       have p102:0 ≤ (x11_1:Int):=oA
       have q102:x11_1 < (l0_1.length:Int):=oA
       obtain ⟨ad102,e102,hx102_0⟩:=Kd.at_int HR0_1.out x11_1 p102 q102
       cases e102
       replace hx102_0:=(HB.out.cell (World.block_lt_of_cell? w _ hx102_0)).trans hx102_0
       replace p102:=eq_true p102
       replace q102:=eq_true q102
       go_wp2
       go_roundg k1
       case measure=>have:=HK1.out;omega
       case rel=>exact ⟨(x5_1),(wrap64 (x11_1 + 1)),oE,H',⟨by have:=HK1.out;omega⟩,⟨rq HO_5.out⟩,⟨hq BK101.out⟩,⟨bg HB.out GE101 GE101⟩⟩
     ·rw [if_neg c7] at H
      exact absurd H (by simp)
    ·rw [if_neg c6] at H
     exact absurd H (by simp)
   ·rw [if_neg c5] at H
    have c5b0:decide (x11_1 < (l0_1.length:Int)) = false:=decide_eq_false c5
    clear c5
    obtain rfl:=Option.some.inj H
    go_wp2
    go_ret
    exact ⟨_,by first|rfl|(simp [errW_none,errW_some] <;> rfl)|(simp [*,errW_none,errW_some] <;> rfl),rq HO_5.out,bg HB.out GE101 GE101⟩
mutual
def q24.j0:Nat → Int → Bool → List Int → List Int → Option (Bool)
 | 0,_,_,_,_=>none
 | k + 1,x1,x15,x102000,x102001=>if x15 = true then (some false) else ((q38.f k x102000 x102001 x1).bind fun t102=>(q24.l0 k t102 (t102.length:Int) 0 x102000 x102001))
def q24.l0:Nat → List Int → Int → Int → List Int → List Int → Option (Bool)
 | 0,_,_,_,_,_=>none
 | k + 1,x18,x19,x20,x102000,x102001=>if x20 < x19 then (if 0 ≤ x20 then (if x20 < (x18.length:Int) then (if 0 ≤ (rd x18 x20) then (if (rd x18 x20) < (x102000.length:Int) then (if (rd x102000 (rd x18 x20)) = 3 then (some true) else (if (rd x102000 (rd x18 x20)) = 4 then (some true) else (q24.l0 k x18 x19 (wrap64 (x20 + 1)) x102000 x102001))) else (none)) else (none)) else (none)) else (none)) else (some false)
end
def q24.f (k:Nat) (l0_0:List Int) (l0_1:List Int) (a1:Int):Option (Bool):=if a1 < 0 then (q24.j0 k a1 true l0_0 l0_1) else (q24.j0 k a1 (decide (a1 ≥ (l0_0.length:Int))) l0_0 l0_1)
set_option maxHeartbeats 8000000 in
set_option maxRecDepth 100000 in
theorem q24.calls (k:Nat) (A0_0:Option Addr) (c0_0:Nat) (l0_0:List Int) (A0_1:Option Addr) (c0_1:Nat) (l0_1:List Int) (a1:Int) (r:Bool) (w:World) (hr0_0:Kd.C (Kd.int .i64) w A0_0 l0_0.length l0_0) (hc0_0:l0_0.length ≤ c0_0) (hr0_1:Kd.C (Kd.int .i64) w A0_1 l0_1.length l0_1) (hc0_1:l0_1.length ≤ c0_1) (h:q24.f k l0_0 l0_1 a1 = some r) :
  Calls Try.prog 50 #[.agg #[.slice A0_0 l0_0.length c0_0,.slice A0_1 l0_1.length c0_1],.int .i64 a1] w fun e w'=>e = .returned (.bool r) ∧ Below w.heap.size w w':=by
 have hu24:=Try.underlying24
 have HR0_0:=Aside0.mk hr0_0
 have HC0_0:=Aside0.mk hc0_0
 clear hr0_0 hc0_0
 have HR0_1:=Aside0.mk hr0_1
 have HC0_1:=Aside0.mk hc0_1
 clear hr0_1 hc0_1
 have HB:=zk (Below.refl w.heap.size w)
 have H:(if a1 < 0 then (q24.j0 k a1 true l0_0 l0_1) else (q24.j0 k a1 (decide (a1 ≥ (l0_0.length:Int))) l0_0 l0_1)) = some r:=h
 clear h
 have HC3:=Aside0.mk H
 clear H
 go_enter Try.func50,Try.ntmps50
 go_upto_region 1 with (first|((with_reducible refine gate_dst (N:=2) rfl ?_);(try (refine gate_guard (by rfl) ?_;dsimp only));refine box_event ?hg (N:=2) ?hd (cs:=#[.slice A0_0 l0_0.length c0_0,.slice A0_1 l0_1.length c0_1]) (t:=24) ?hr ?_;(case hd=>rfl);(case hg=>rfl);(case hr=>first|(go_simp;done)|(go_simp;rfl));intro gb101 hg w4 hbox hb;have n0_:=zk (below_step (bq HB.out) hb);have n1_:=zk (hbox);have n2_:=zk ((by rw [hg];exact (below_size (bq HB.out)):w.heap.size ≤ gb101));have n3_:=zk ((by rw [hg];exact (below_size (bq HB.out)):w.heap.size ≤ gb101));clear HB;have HB:=n0_;have BK101:=n1_;have GW101:=n2_;have GE101:=n3_;clear n0_ n1_ n2_ n3_;clear hb hbox hg))
 (try simp only [Act.put,List.setIfInBounds_toArray,List.set_cons_zero,List.set_cons_succ])
 go_cut [15] (fun v15 wc=>∃ (kq:Nat) (x15_2:Bool),v15 = .bool x15_2 ∧ Aside0 (q24.j0 kq a1 x15_2 l0_0 l0_1 = some r) ∧ Aside0 (kq ≤ k) ∧ Aside0 (wc.heap[gb101]? = some (.cells #[(.slice A0_0 l0_0.length c0_0),(.slice A0_1 l0_1.length c0_1)] 24 (0,0))) ∧ Aside0 (Below w.heap.size w wc))
 case first =>
  have H:=HC3.out
  clear HC3
  by_cases c5:a1 < 0
  ·rw [if_pos c5] at H
   have c5b0:decide (a1 < 0) = true:=decide_eq_true c5
   clear c5
   (first|rw [c5b0]|(simp only [i64_w,i32_w];rw [c5b0])|skip)
   have H':=Aside0.mk H
   clear H
   go_wp2
   go_meet
   case rel=>exact ⟨_,(true),oE,H',⟨by first|omega|exact Nat.le_refl _⟩,⟨hq BK101.out⟩,⟨bg HB.out GE101 GE101⟩⟩
  ·rw [if_neg c5] at H
   have c5b0:decide (a1 < 0) = false:=decide_eq_false c5
   clear c5
   (first|rw [c5b0]|(simp only [i64_w,i32_w];rw [c5b0])|skip)
   have H':=Aside0.mk H
   clear H
   have hcz6_0:w4.cell? ⟨gb101,0,none⟩ = some (.slice A0_0 l0_0.length c0_0):=(blk_cell BK101.out 0).trans rfl
   have hcz6_1:w4.cell? ⟨gb101,1,none⟩ = some (.slice A0_1 l0_1.length c0_1):=(blk_cell BK101.out 1).trans rfl
   have hfz6_0:=blk_frozen BK101.out 0
   have hfz6_1:=blk_frozen BK101.out 1
   go_wp2
   go_meet
   case rel=>exact ⟨_,(decide (a1 ≥ (l0_0.length:Int))),oE,H',⟨by first|omega|exact Nat.le_refl _⟩,⟨hq BK101.out⟩,⟨bg HB.out GE101 GE101⟩⟩
 case rest =>
  clear HC3
  try clear p2
  try clear c5
  try clear c5b0
  try clear hcz6_0
  try clear hcz6_1
  try clear hfz6_0
  try clear hfz6_1
  obtain ⟨kq,x15_2,rfl,HA,HJ2,BK101,HB⟩:=hcut
  cases kq with
  | zero=>exact absurd HA.out (by simp [q24.j0])
  | succ kj2 =>
   have H:=HA.out
   clear HA
   simp only [q24.j0] at H
   by_cases c7:x15_2 = true
   ·subst c7
    have H1:(some false) = some r:=by rw [if_pos rfl] at H;exact H
    clear H
    have H:=H1
    clear H1
    obtain rfl:=Option.some.inj H
    go_wp2
    go_ret
    exact ⟨by first|rfl|(simp [errW_none,errW_some] <;> rfl)|(simp [*,errW_none,errW_some] <;> rfl),bg HB.out GE101 GE101⟩
   ·replace c7:=Bool.eq_false_iff.mpr c7
    subst c7
    have H1:((q38.f kj2 l0_0 l0_1 a1).bind fun t102=>(q24.l0 kj2 t102 (t102.length:Int) 0 l0_0 l0_1)) = some r:=by rw [if_neg (show ¬ (false = true) by decide)] at H;exact H
    clear H
    have H:=H1
    clear H1
    replace H:=Option.bind_eq_some_iff.mp H
    obtain ⟨t102,A80,H⟩:=H
    replace H:(q24.l0 kj2 t102 (t102.length:Int) 0 l0_0 l0_1) = some r:=H
    have A8:=Aside0.mk A80
    clear A80
    have H':=Aside0.mk H
    clear H
    have hcz9_0:wc.cell? ⟨gb101,0,none⟩ = some (.slice A0_0 l0_0.length c0_0):=(blk_cell BK101.out 0).trans rfl
    have hcz9_1:wc.cell? ⟨gb101,1,none⟩ = some (.slice A0_1 l0_1.length c0_1):=(blk_cell BK101.out 1).trans rfl
    have hfz9_0:=blk_frozen BK101.out 0
    have hfz9_1:=blk_frozen BK101.out 1
    go_wp2_with (first|((with_reducible refine gate_callee (f:=25) rfl ?_);refine goesL_ (some 18) rfl rfl Try.func25 (by kernel_rfl) rfl #[.agg #[.slice A0_0 l0_0.length c0_0,.slice A0_1 l0_1.length c0_1],.int .i64 a1] rfl oF ?_;(with_reducible refine (q38.calls kj2 _ _ l0_0 _ _ l0_1 a1 t102 _ ?side1 ?side2 ?side3 ?side4 A8.out).mono ?_);(case side1=>exact cq (Kd.C_below HR0_0.out HB.out));(case side2=>exact HC0_0.out);(case side3=>exact cq (Kd.C_below HR0_1.out HB.out));(case side4=>exact HC0_1.out);rintro e w10 ⟨v103,rfl,ho0,hb⟩;refine ⟨_,rfl,?_⟩;have n0_:=zk (Kd.R_lower ho0 (below_size (bg HB.out GE101 GE101)));have n1_:=zk (blk_below (g:=gb101) (o:=.cells #[.slice A0_0 l0_0.length c0_0,.slice A0_1 l0_1.length c0_1] 24 (0,0)) (hq BK101.out) hb);have n2_:=zk (below_step (bg HB.out GE101 GE101) hb);clear BK101;clear HB;have HO104:=n0_;have BK101:=n1_;have HB:=n2_;clear n0_ n1_ n2_;(try clear hb);(try clear hb2);(try clear hk);(try clear hi);(try clear ho0);obtain ⟨Ao11,co11,eo11⟩:=Kd.R_slice HO104.out;subst eo11))
    go_loopg [20] kj2 (fun kq v20 w'=>∃ (x20_2:Int),v20 = .int .i64 x20_2 ∧ Aside0 (q24.l0 kq t102 (t102.length:Int) x20_2 l0_0 l0_1 = some r) ∧ Aside0 (kq ≤ kj2) ∧ Aside0 (Kd.R (Kd.int .i64) 3 w' w.heap.size (fun _=>True) (.slice Ao11 t102.length co11) t102) ∧ Aside0 (w'.heap[gb101]? = some (.cells #[(.slice A0_0 l0_0.length c0_0),(.slice A0_1 l0_1.length c0_1)] 24 (0,0))) ∧ Aside0 (Below w.heap.size w w'))
    case atStart=>exact ⟨(0),oE,H',⟨Nat.le_refl _⟩,⟨rq HO104.out⟩,⟨hq BK101.out⟩,⟨bg HB.out GE101 GE101⟩⟩
    case round =>
     clear H'
     try clear c2
     try clear p2
     try clear c5
     try clear c5b0
     try clear c7
     try clear hcz6_0
     try clear hcz6_1
     try clear hcz9_0
     try clear hcz9_1
     try clear hfz6_0
     try clear hfz6_1
     try clear hfz9_0
     try clear hfz9_1
     try clear p2
     obtain ⟨x20_2,rfl,HA,HK2,HO_18,BK101,HB⟩:=hrel
     cases gk with
     | zero=>exact absurd HA.out (by simp [q24.l0])
     | succ k2 =>
      have H:=HA.out
      clear HA
      simp only [q24.l0] at H
      by_cases c12:x20_2 < (t102.length:Int)
      ·rw [if_pos c12] at H
       have c12b0:decide (x20_2 < (t102.length:Int)) = true:=decide_eq_true c12
       clear c12
       by_cases c13:0 ≤ x20_2
       ·rw [if_pos c13] at H
        have c13b0:decide (0 ≤ x20_2) = true:=decide_eq_true c13
        clear c13
        by_cases c14:x20_2 < (t102.length:Int)
        ·rw [if_pos c14] at H
         have c14b0:decide (x20_2 < (t102.length:Int)) = true:=decide_eq_true c14
         clear c14
         by_cases c15:0 ≤ (rd t102 x20_2)
         ·rw [if_pos c15] at H
          have c15b0:decide (0 ≤ (rd t102 x20_2)) = true:=decide_eq_true c15
          clear c15
          by_cases c16:(rd t102 x20_2) < (l0_0.length:Int)
          ·rw [if_pos c16] at H
           have c16b0:decide ((rd t102 x20_2) < (l0_0.length:Int)) = true:=decide_eq_true c16
           clear c16
           by_cases c17:(rd l0_0 (rd t102 x20_2)) = 3
           ·rw [if_pos c17] at H
            have c17b0:((rd l0_0 (rd t102 x20_2)) == 3) = true:=beq_iff_eq.mpr c17
            have c17b1:((rd l0_0 (rd t102 x20_2)) != 3) = false:=bne_eq_false_iff_eq.mpr c17
            clear c17
            obtain rfl:=Option.some.inj H
            have p105:0 ≤ (x20_2:Int):=oA
            have q105:x20_2 < (t102.length:Int):=oA
            obtain ⟨ad105,e105,hx105_0⟩:=Kd.at_int (Kd.R_reads' HO_18.out).2.2 x20_2 p105 q105
            cases e105
            replace p105:=eq_true p105
            replace q105:=eq_true q105
            have hcz18_0:wr.cell? ⟨gb101,0,none⟩ = some (.slice A0_0 l0_0.length c0_0):=(blk_cell BK101.out 0).trans rfl
            have hcz18_1:wr.cell? ⟨gb101,1,none⟩ = some (.slice A0_1 l0_1.length c0_1):=(blk_cell BK101.out 1).trans rfl
            have hfz18_0:=blk_frozen BK101.out 0
            have hfz18_1:=blk_frozen BK101.out 1
            have p106:0 ≤ ((rd t102 x20_2):Int):=oA
            have q106:(rd t102 x20_2) < (l0_0.length:Int):=oA
            obtain ⟨ad106,e106,hx106_0⟩:=Kd.at_int HR0_0.out (rd t102 x20_2) p106 q106
            cases e106
            replace hx106_0:=(HB.out.cell (World.block_lt_of_cell? w _ hx106_0)).trans hx106_0
            replace p106:=eq_true p106
            replace q106:=eq_true q106
            go_wp2
            go_ret
            exact ⟨by first|rfl|(simp [errW_none,errW_some] <;> rfl)|(simp [*,errW_none,errW_some] <;> rfl),bg HB.out GE101 GE101⟩
           ·rw [if_neg c17] at H
            have c17b0:((rd l0_0 (rd t102 x20_2)) == 3) = false:=beq_eq_false_iff_ne.mpr c17
            have c17b1:((rd l0_0 (rd t102 x20_2)) != 3) = true:=bne_iff_ne.mpr c17
            by_cases c19:(rd l0_0 (rd t102 x20_2)) = 4
            ·rw [if_pos c19] at H
             have c19b0:((rd l0_0 (rd t102 x20_2)) == 4) = true:=beq_iff_eq.mpr c19
             have c19b1:((rd l0_0 (rd t102 x20_2)) != 4) = false:=bne_eq_false_iff_eq.mpr c19
             clear c19
             obtain rfl:=Option.some.inj H
             have p105:0 ≤ (x20_2:Int):=oA
             have q105:x20_2 < (t102.length:Int):=oA
             obtain ⟨ad105,e105,hx105_0⟩:=Kd.at_int (Kd.R_reads' HO_18.out).2.2 x20_2 p105 q105
             cases e105
             replace p105:=eq_true p105
             replace q105:=eq_true q105
             have hcz20_0:wr.cell? ⟨gb101,0,none⟩ = some (.slice A0_0 l0_0.length c0_0):=(blk_cell BK101.out 0).trans rfl
             have hcz20_1:wr.cell? ⟨gb101,1,none⟩ = some (.slice A0_1 l0_1.length c0_1):=(blk_cell BK101.out 1).trans rfl
             have hfz20_0:=blk_frozen BK101.out 0
             have hfz20_1:=blk_frozen BK101.out 1
             have p106:0 ≤ ((rd t102 x20_2):Int):=oA
             have q106:(rd t102 x20_2) < (l0_0.length:Int):=oA
             obtain ⟨ad106,e106,hx106_0⟩:=Kd.at_int HR0_0.out (rd t102 x20_2) p106 q106
             cases e106
             replace hx106_0:=(HB.out.cell (World.block_lt_of_cell? w _ hx106_0)).trans hx106_0
             replace p106:=eq_true p106
             replace q106:=eq_true q106
             have p107:0 ≤ ((rd t102 x20_2):Int):=oA
             have q107:(rd t102 x20_2) < (l0_0.length:Int):=oA
             obtain ⟨ad107,e107,hx107_0⟩:=Kd.at_int HR0_0.out (rd t102 x20_2) p107 q107
             obtain rfl:ad106 = ad107:=(by injection e107)
             replace hx107_0:=(HB.out.cell (World.block_lt_of_cell? w _ hx107_0)).trans hx107_0
             replace p107:=eq_true p107
             replace q107:=eq_true q107
             go_wp2
             go_ret
             exact ⟨by first|rfl|(simp [errW_none,errW_some] <;> rfl)|(simp [*,errW_none,errW_some] <;> rfl),bg HB.out GE101 GE101⟩
            ·rw [if_neg c19] at H
             have c19b0:((rd l0_0 (rd t102 x20_2)) == 4) = false:=beq_eq_false_iff_ne.mpr c19
             have c19b1:((rd l0_0 (rd t102 x20_2)) != 4) = true:=bne_iff_ne.mpr c19
             have H':=Aside0.mk H
             clear H
             have p105:0 ≤ (x20_2:Int):=oA
             have q105:x20_2 < (t102.length:Int):=oA
             obtain ⟨ad105,e105,hx105_0⟩:=Kd.at_int (Kd.R_reads' HO_18.out).2.2 x20_2 p105 q105
             cases e105
             replace p105:=eq_true p105
             replace q105:=eq_true q105
             have hcz21_0:wr.cell? ⟨gb101,0,none⟩ = some (.slice A0_0 l0_0.length c0_0):=(blk_cell BK101.out 0).trans rfl
             have hcz21_1:wr.cell? ⟨gb101,1,none⟩ = some (.slice A0_1 l0_1.length c0_1):=(blk_cell BK101.out 1).trans rfl
             have hfz21_0:=blk_frozen BK101.out 0
             have hfz21_1:=blk_frozen BK101.out 1
             have p106:0 ≤ ((rd t102 x20_2):Int):=oA
             have q106:(rd t102 x20_2) < (l0_0.length:Int):=oA
             obtain ⟨ad106,e106,hx106_0⟩:=Kd.at_int HR0_0.out (rd t102 x20_2) p106 q106
             cases e106
             replace hx106_0:=(HB.out.cell (World.block_lt_of_cell? w _ hx106_0)).trans hx106_0
             replace p106:=eq_true p106
             replace q106:=eq_true q106
             have p107:0 ≤ ((rd t102 x20_2):Int):=oA
             have q107:(rd t102 x20_2) < (l0_0.length:Int):=oA
             obtain ⟨ad107,e107,hx107_0⟩:=Kd.at_int HR0_0.out (rd t102 x20_2) p107 q107
             obtain rfl:ad106 = ad107:=(by injection e107)
             replace hx107_0:=(HB.out.cell (World.block_lt_of_cell? w _ hx107_0)).trans hx107_0
             replace p107:=eq_true p107
             replace q107:=eq_true q107
             go_wp2
             go_roundg k2
             case measure=>have:=HJ2.out;have:=HK2.out;omega
             case rel=>exact ⟨(wrap64 (x20_2 + 1)),oE,H',⟨by have:=HJ2.out;have:=HK2.out;omega⟩,⟨rq HO_18.out⟩,⟨hq BK101.out⟩,⟨bg HB.out GE101 GE101⟩⟩
          ·rw [if_neg c16] at H
           exact absurd H (by simp)
         ·rw [if_neg c15] at H
          exact absurd H (by simp)
        ·rw [if_neg c14] at H
         exact absurd H (by simp)
       ·rw [if_neg c13] at H
        exact absurd H (by simp)
      ·rw [if_neg c12] at H
       have c12b0:decide (x20_2 < (t102.length:Int)) = false:=decide_eq_false c12
       clear c12
       obtain rfl:=Option.some.inj H
       go_wp2
       go_ret
       exact ⟨by first|rfl|(simp [errW_none,errW_some] <;> rfl)|(simp [*,errW_none,errW_some] <;> rfl),bg HB.out GE101 GE101⟩
end Go.Proofs.Ytnomeokicfpidaa.Q
