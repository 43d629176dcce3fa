-- merged and slimmed by slim.py (a program of this repo)
import Derived.Test.YtnomeokicfpidaaKShapeForms0
import Derived.StillTailTactics
namespace Go.Proofs.Ytnomeokicfpidaa.Q
open Go.RowKit Go.Proofs.YtnomeokicfpidaaW.PrintWords Go.Proofs.YtnomeokicfpidaaW.PrintLast Go.Proofs.YtnomeokicfpidaaW.PrintMore
attribute [local go_sem] max2_int min2_int max_two min_two max_three min_three max_four min_four
set_option linter.unusedVariables false
set_option linter.unusedSimpArgs false
mutual
def q9.j0:Nat → Int → Bool → List Int → List Int → Option (Bool)
 | 0,_,_,_,_=>none
 | k + 1,x3,x23,x102000,x102001=>if x23 = true then (some false) else (q9.l0 k x3 x102000 (x102000.length:Int) 0 x102000 x102001)
def q9.l0:Nat → Int → List Int → Int → Int → List Int → List Int → Option (Bool)
 | 0,_,_,_,_,_,_=>none
 | k + 1,x3,x25,x26,x27,x102000,x102001=>if x27 < x26 then (if 0 ≤ x27 then (if x27 < (x25.length:Int) then (if x27 < (x102001.length:Int) then (if (rd x25 x27) < 1 then (q9.j2 k x3 (rd x25 x27) (rd x102001 x27) x25 x26 x27 true x102000 x102001) else (if (rd x25 x27) > 4 then (q9.j2 k x3 (rd x25 x27) (rd x102001 x27) x25 x26 x27 true x102000 x102001) else (if (rd x102001 x27) < (-1) then (q9.j2 k x3 (rd x25 x27) (rd x102001 x27) x25 x26 x27 true x102000 x102001) else (q9.j2 k x3 (rd x25 x27) (rd x102001 x27) x25 x26 x27 (decide ((rd x102001 x27) ≥ x27)) x102000 x102001)))) else (none)) else (none)) else (none)) else (q9.l1 k x3 (-1) x102000 x102001)
def q9.j2:Nat → Int → Int → Int → List Int → Int → Int → Bool → List Int → List Int → Option (Bool)
 | 0,_,_,_,_,_,_,_,_,_=>none
 | k + 1,x3,x5,x6,x25,x26,x27,x51,x102000,x102001=>if x51 = true then (some false) else (if x6 = (-1) then ((q8.f x5).bind fun t104=>(if t104 = true then (q9.l0 k x3 x25 x26 (wrap64 (x27 + 1)) x102000 x102001) else (some false))) else (if 0 ≤ x6 then (if x6 < (x102000.length:Int) then ((q8.f (rd x102000 x6)).bind fun t106=>(if t106 = true then ((q8.f x5).bind fun t107=>(if t107 = true then (q9.l0 k x3 x25 x26 (wrap64 (x27 + 1)) x102000 x102001) else (if (rd x102000 x6) = 1 then (q9.l0 k x3 x25 x26 (wrap64 (x27 + 1)) x102000 x102001) else (some false)))) else (some false))) else (none)) else (none)))
def q9.l1:Nat → Int → Int → List Int → List Int → Option (Bool)
 | 0,_,_,_,_=>none
 | k + 1,x3,x7,x102000,x102001=>if x7 < x3 then (if x7 = (-1) then ((q6.f k x102000 x102001 x7).bind fun t109=>(if t109 < 0 then (some false) else (q9.l1 k x3 (wrap64 (x7 + 1)) x102000 x102001))) else ((q10.f k x102000 x102001 x7).bind fun t110=>(if (t110.length:Int) > 0 then ((q6.f k x102000 x102001 x7).bind fun t113=>(if t113 < 0 then (some false) else (q9.l1 k x3 (wrap64 (x7 + 1)) x102000 x102001))) else (q9.l1 k x3 (wrap64 (x7 + 1)) x102000 x102001)))) else (some true)
end
def q9.f (k:Nat) (l0_0:List Int) (l0_1:List Int):Option (Bool):=if (l0_0.length:Int) < 1 then (q9.j0 k (l0_0.length:Int) true l0_0 l0_1) else (if (l0_0.length:Int) > 24 then (q9.j0 k (l0_0.length:Int) true l0_0 l0_1) else (q9.j0 k (l0_0.length:Int) ((l0_1.length:Int) != (l0_0.length:Int)) l0_0 l0_1))
set_option maxHeartbeats 8000000 in
set_option maxRecDepth 100000 in
theorem q9.calls (k:Nat) (A0_0:Option Addr) (c0_0:Nat) (l0_0:List Int) (A0_1:Option Addr) (c0_1:Nat) (l0_1:List Int) (r:Bool) (w:World) (hr0_0:Kd.C (Kd.int .i64) w A0_0 l0_0.length l0_0) (hc0_0:l0_0.length ≤ c0_0) (hr0_1:Kd.C (Kd.int .i64) w A0_1 l0_1.length l0_1) (hc0_1:l0_1.length ≤ c0_1) (h:q9.f k l0_0 l0_1 = some r) :
  Calls Try.prog 20 #[.agg #[.slice A0_0 l0_0.length c0_0,.slice A0_1 l0_1.length c0_1]] w fun e w'=>e = .returned (.bool r) ∧ Below w.heap.size w w':=by
 have hu24:=Try.underlying24
 have HR0_0:=Aside0.mk hr0_0
 have HC0_0:=Aside0.mk hc0_0
 clear hr0_0 hc0_0
 have HR0_1:=Aside0.mk hr0_1
 have HC0_1:=Aside0.mk hc0_1
 clear hr0_1 hc0_1
 have HB:=zk (Below.refl w.heap.size w)
 have H:(if (l0_0.length:Int) < 1 then (q9.j0 k (l0_0.length:Int) true l0_0 l0_1) else (if (l0_0.length:Int) > 24 then (q9.j0 k (l0_0.length:Int) true l0_0 l0_1) else (q9.j0 k (l0_0.length:Int) ((l0_1.length:Int) != (l0_0.length:Int)) l0_0 l0_1))) = some r:=h
 clear h
 have HC2:=Aside0.mk H
 clear H
 go_enter Try.func20,Try.ntmps20
 go_upto_region 2 with (first|((with_reducible refine gate_dst (N:=1) rfl ?_);(try (refine gate_guard (by rfl) ?_;dsimp only));refine box_event ?hg (N:=1) ?hd (cs:=#[.slice A0_0 l0_0.length c0_0,.slice A0_1 l0_1.length c0_1]) (t:=24) ?hr ?_;(case hd=>rfl);(case hg=>rfl);(case hr=>first|(go_simp;done)|(go_simp;rfl));intro gb101 hg w3 hbox hb;have n0_:=zk (below_step (bq HB.out) hb);have n1_:=zk (hbox);have n2_:=zk ((by rw [hg];exact (below_size (bq HB.out)):w.heap.size ≤ gb101));have n3_:=zk ((by rw [hg];exact (below_size (bq HB.out)):w.heap.size ≤ gb101));clear HB;have HB:=n0_;have BK101:=n1_;have GW101:=n2_;have GE101:=n3_;clear n0_ n1_ n2_ n3_;clear hb hbox hg;have hcz4_0:w3.cell? ⟨gb101,0,none⟩ = some (.slice A0_0 l0_0.length c0_0):=(blk_cell BK101.out 0).trans rfl;have hcz4_1:w3.cell? ⟨gb101,1,none⟩ = some (.slice A0_1 l0_1.length c0_1):=(blk_cell BK101.out 1).trans rfl;have hfz4_0:=blk_frozen BK101.out 0;have hfz4_1:=blk_frozen BK101.out 1))
 (try simp only [Act.put,List.setIfInBounds_toArray,List.set_cons_zero,List.set_cons_succ])
 go_cut [23] (fun v23 wc=>∃ (kq:Nat) (x23_1:Bool),v23 = .bool x23_1 ∧ Aside0 (q9.j0 kq (l0_0.length:Int) x23_1 l0_0 l0_1 = some r) ∧ Aside0 (kq ≤ k) ∧ Aside0 (wc.heap[gb101]? = some (.cells #[(.slice A0_0 l0_0.length c0_0),(.slice A0_1 l0_1.length c0_1)] 24 (0,0))) ∧ Aside0 (Below w.heap.size w wc))
 case first =>
  have H:=HC2.out
  clear HC2
  by_cases c5:(l0_0.length:Int) < 1
  ·rw [if_pos c5] at H
   have c5b0:decide ((l0_0.length:Int) < 1) = true:=decide_eq_true c5
   have c5b1:decide (l0_0.length < 1) = true:=decide_eq_true (by omega)
   clear c5
   (first|rw [c5b0]|(simp only [i64_w,i32_w];rw [c5b0])|skip)
   have H':=Aside0.mk H
   clear H
   go_wp2
   go_meet
   case rel=>exact ⟨_,(true),oE,H',⟨by first|omega|exact Nat.le_refl _⟩,⟨hq BK101.out⟩,⟨bg HB.out GE101 GE101⟩⟩
  ·rw [if_neg c5] at H
   have c5b0:decide ((l0_0.length:Int) < 1) = false:=decide_eq_false c5
   have c5b1:decide (l0_0.length < 1) = false:=decide_eq_false (by omega)
   clear c5
   (first|rw [c5b0]|(simp only [i64_w,i32_w];rw [c5b0])|skip)
   by_cases c6:(l0_0.length:Int) > 24
   ·rw [if_pos c6] at H
    have c6b0:decide (24 < (l0_0.length:Int)) = true:=decide_eq_true c6
    have c6b1:decide (24 < l0_0.length) = true:=decide_eq_true (by omega)
    clear c6
    have H':=Aside0.mk H
    clear H
    go_wp2
    go_meet
    case rel=>exact ⟨_,(true),oE,H',⟨by first|omega|exact Nat.le_refl _⟩,⟨hq BK101.out⟩,⟨bg HB.out GE101 GE101⟩⟩
   ·rw [if_neg c6] at H
    have c6b0:decide (24 < (l0_0.length:Int)) = false:=decide_eq_false c6
    have c6b1:decide (24 < l0_0.length) = false:=decide_eq_false (by omega)
    clear c6
    have H':=Aside0.mk H
    clear H
    have hcz7_0:w3.cell? ⟨gb101,0,none⟩ = some (.slice A0_0 l0_0.length c0_0):=(blk_cell BK101.out 0).trans rfl
    have hcz7_1:w3.cell? ⟨gb101,1,none⟩ = some (.slice A0_1 l0_1.length c0_1):=(blk_cell BK101.out 1).trans rfl
    have hfz7_0:=blk_frozen BK101.out 0
    have hfz7_1:=blk_frozen BK101.out 1
    go_wp2
    go_meet
    case rel=>exact ⟨_,(((l0_1.length:Int) != (l0_0.length:Int))),oE,H',⟨by first|omega|exact Nat.le_refl _⟩,⟨hq BK101.out⟩,⟨bg HB.out GE101 GE101⟩⟩
 case rest =>
  clear HC2
  try clear c2
  try clear p2
  try clear c5
  try clear c5b0
  try clear c5b1
  try clear c6
  try clear c6b0
  try clear c6b1
  try clear hcz4_0
  try clear hcz4_1
  try clear hcz7_0
  try clear hcz7_1
  try clear hfz4_0
  try clear hfz4_1
  try clear hfz7_0
  try clear hfz7_1
  obtain ⟨kq,x23_1,rfl,HA,HJ1,BK101,HB⟩:=hcut
  cases kq with
  | zero=>exact absurd HA.out (by simp [q9.j0])
  | succ kj1 =>
   have H:=HA.out
   clear HA
   simp only [q9.j0] at H
   by_cases c8:x23_1 = true
   ·subst c8
    have H1:(some false) = some r:=by rw [if_pos rfl] at H;exact H
    clear H
    have H:=H1
    clear H1
    obtain rfl:=Option.some.inj H
    go_wp2
    go_ret
    exact ⟨by first|rfl|(simp [errW_none,errW_some] <;> rfl)|(simp [*,errW_none,errW_some] <;> rfl),bg HB.out GE101 GE101⟩
   ·replace c8:=Bool.eq_false_iff.mpr c8
    subst c8
    have H1:(q9.l0 kj1 (l0_0.length:Int) l0_0 (l0_0.length:Int) 0 l0_0 l0_1) = some r:=by rw [if_neg (show ¬ (false = true) by decide)] at H;exact H
    clear H
    have H:=H1
    clear H1
    have H':=Aside0.mk H
    clear H
    have hcz9_0:wc.cell? ⟨gb101,0,none⟩ = some (.slice A0_0 l0_0.length c0_0):=(blk_cell BK101.out 0).trans rfl
    have hcz9_1:wc.cell? ⟨gb101,1,none⟩ = some (.slice A0_1 l0_1.length c0_1):=(blk_cell BK101.out 1).trans rfl
    have hfz9_0:=blk_frozen BK101.out 0
    have hfz9_1:=blk_frozen BK101.out 1
    go_wp2
    go_loopg [27] kj1 (fun kq v27 w'=>∃ (x27_2:Int),v27 = .int .i64 x27_2 ∧ Aside0 (q9.l0 kq (l0_0.length:Int) l0_0 (l0_0.length:Int) x27_2 l0_0 l0_1 = some r) ∧ Aside0 (kq ≤ kj1) ∧ Aside0 (w'.heap[gb101]? = some (.cells #[(.slice A0_0 l0_0.length c0_0),(.slice A0_1 l0_1.length c0_1)] 24 (0,0))) ∧ Aside0 (Below w.heap.size w w'))
    case atStart=>exact ⟨(0),oE,H',⟨Nat.le_refl _⟩,⟨hq BK101.out⟩,⟨bg HB.out GE101 GE101⟩⟩
    case round =>
     clear H'
     try clear c2
     try clear p2
     try clear c5
     try clear c5b0
     try clear c5b1
     try clear c6
     try clear c6b0
     try clear c6b1
     try clear c8
     try clear hcz4_0
     try clear hcz4_1
     try clear hcz7_0
     try clear hcz7_1
     try clear hcz9_0
     try clear hcz9_1
     try clear hfz4_0
     try clear hfz4_1
     try clear hfz7_0
     try clear hfz7_1
     try clear hfz9_0
     try clear hfz9_1
     try clear p2
     obtain ⟨x27_2,rfl,HA,HK2,BK101,HB⟩:=hrel
     cases gk with
     | zero=>exact absurd HA.out (by simp [q9.l0])
     | succ k2 =>
      have H:=HA.out
      clear HA
      simp only [q9.l0] at H
      by_cases c10:x27_2 < (l0_0.length:Int)
      ·rw [if_pos c10] at H
       have c10b0:decide (x27_2 < (l0_0.length:Int)) = true:=decide_eq_true c10
       clear c10
       by_cases c11:0 ≤ x27_2
       ·rw [if_pos c11] at H
        have c11b0:decide (0 ≤ x27_2) = true:=decide_eq_true c11
        clear c11
        by_cases c12:x27_2 < (l0_0.length:Int)
        ·rw [if_pos c12] at H
         have c12b0:decide (x27_2 < (l0_0.length:Int)) = true:=decide_eq_true c12
         clear c12
         by_cases c13:x27_2 < (l0_1.length:Int)
         ·rw [if_pos c13] at H
          have c13b0:decide (x27_2 < (l0_1.length:Int)) = true:=decide_eq_true c13
          clear c13
          have HC14:=Aside0.mk H
          clear H
          have p102:0 ≤ (x27_2:Int):=oA
          have q102:x27_2 < (l0_0.length:Int):=oA
          obtain ⟨ad102,e102,hx102_0⟩:=Kd.at_int HR0_0.out x27_2 p102 q102
          cases e102
          replace hx102_0:=(HB.out.cell (World.block_lt_of_cell? w _ hx102_0)).trans hx102_0
          replace p102:=eq_true p102
          replace q102:=eq_true q102
          have hcz15_0:wr.cell? ⟨gb101,0,none⟩ = some (.slice (some ad102) l0_0.length c0_0):=(blk_cell BK101.out 0).trans rfl
          have hcz15_1:wr.cell? ⟨gb101,1,none⟩ = some (.slice A0_1 l0_1.length c0_1):=(blk_cell BK101.out 1).trans rfl
          have hfz15_0:=blk_frozen BK101.out 0
          have hfz15_1:=blk_frozen BK101.out 1
          have p103:0 ≤ (x27_2:Int):=oA
          have q103:x27_2 < (l0_1.length:Int):=oA
          obtain ⟨ad103,e103,hx103_0⟩:=Kd.at_int HR0_1.out x27_2 p103 q103
          cases e103
          replace hx103_0:=(HB.out.cell (World.block_lt_of_cell? w _ hx103_0)).trans hx103_0
          replace p103:=eq_true p103
          replace q103:=eq_true q103
          go_upto_region 8 with (fail)
          go_cut [51] (fun v51 wc=>∃ (kq:Nat) (x51_13:Bool),v51 = .bool x51_13 ∧ Aside0 (q9.j2 kq (l0_0.length:Int) (rd l0_0 x27_2) (rd l0_1 x27_2) l0_0 (l0_0.length:Int) x27_2 x51_13 l0_0 l0_1 = some r) ∧ Aside0 (kq ≤ k2) ∧ Aside0 (wc.heap[gb101]? = some (.cells #[(.slice (some ad102) l0_0.length c0_0),(.slice (some ad103) l0_1.length c0_1)] 24 (0,0))) ∧ Aside0 (Below w.heap.size w wc))
          case first =>
           have H:=HC14.out
           clear HC14
           by_cases c16:(rd l0_0 x27_2) < 1
           ·rw [if_pos c16] at H
            have c16b0:decide ((rd l0_0 x27_2) < 1) = true:=decide_eq_true c16
            clear c16
            (first|rw [c16b0]|(simp only [i64_w,i32_w];rw [c16b0])|skip)
            have H':=Aside0.mk H
            clear H
            go_wp2
            go_meet
            case rel=>exact ⟨_,(true),oE,H',⟨by have:=HJ1.out;have:=HK2.out;first|omega|exact Nat.le_refl _⟩,⟨hq BK101.out⟩,⟨bg HB.out GE101 GE101⟩⟩
           ·rw [if_neg c16] at H
            have c16b0:decide ((rd l0_0 x27_2) < 1) = false:=decide_eq_false c16
            clear c16
            (first|rw [c16b0]|(simp only [i64_w,i32_w];rw [c16b0])|skip)
            by_cases c17:(rd l0_0 x27_2) > 4
            ·rw [if_pos c17] at H
             have c17b0:decide (4 < (rd l0_0 x27_2)) = true:=decide_eq_true c17
             clear c17
             have H':=Aside0.mk H
             clear H
             go_wp2
             go_meet
             case rel=>exact ⟨_,(true),oE,H',⟨by have:=HJ1.out;have:=HK2.out;first|omega|exact Nat.le_refl _⟩,⟨hq BK101.out⟩,⟨bg HB.out GE101 GE101⟩⟩
            ·rw [if_neg c17] at H
             have c17b0:decide (4 < (rd l0_0 x27_2)) = false:=decide_eq_false c17
             clear c17
             by_cases c18:(rd l0_1 x27_2) < (-1)
             ·rw [if_pos c18] at H
              have c18b0:decide ((rd l0_1 x27_2) < (-1)) = true:=decide_eq_true c18
              clear c18
              have H':=Aside0.mk H
              clear H
              go_wp2
              go_meet
              case rel=>exact ⟨_,(true),oE,H',⟨by have:=HJ1.out;have:=HK2.out;first|omega|exact Nat.le_refl _⟩,⟨hq BK101.out⟩,⟨bg HB.out GE101 GE101⟩⟩
             ·rw [if_neg c18] at H
              have c18b0:decide ((rd l0_1 x27_2) < (-1)) = false:=decide_eq_false c18
              clear c18
              have H':=Aside0.mk H
              clear H
              go_wp2
              go_meet
              case rel=>exact ⟨_,(decide ((rd l0_1 x27_2) ≥ x27_2)),oE,H',⟨by have:=HJ1.out;have:=HK2.out;first|omega|exact Nat.le_refl _⟩,⟨hq BK101.out⟩,⟨bg HB.out GE101 GE101⟩⟩
          case rest =>
           clear HC14
           try clear c1
           try clear p1
           try clear q1
           try clear hx1
           try clear c2
           try clear p2
           try clear c5
           try clear c5b0
           try clear c5b1
           try clear c6
           try clear c6b0
           try clear c6b1
           try clear c8
           try clear c10
           try clear c10b0
           try clear p10
           try clear q10
           try clear hx10
           try clear c11
           try clear c11b0
           try clear c12
           try clear c12b0
           try clear c13
           try clear c13b0
           try clear c16
           try clear c16b0
           try clear c17
           try clear c17b0
           try clear c18
           try clear c18b0
           try clear hcz15_0
           try clear hcz15_1
           try clear hcz4_0
           try clear hcz4_1
           try clear hcz7_0
           try clear hcz7_1
           try clear hcz9_0
           try clear hcz9_1
           try clear hfz15_0
           try clear hfz15_1
           try clear hfz4_0
           try clear hfz4_1
           try clear hfz7_0
           try clear hfz7_1
           try clear hfz9_0
           try clear hfz9_1
           try clear hx102_0
           try clear hx103_0
           try clear p102
           try clear p103
           try clear p2
           try clear q102
           try clear q103
           obtain ⟨kq,x51_13,rfl,HA,HJ13,BK101,HB⟩:=hcut
           cases kq with
           | zero=>exact absurd HA.out (by simp [q9.j2])
           | succ kj13 =>
            have H:=HA.out
            clear HA
            simp only [q9.j2] at H
            by_cases c19:x51_13 = true
            ·subst c19
             have H1:(some false) = some r:=by rw [if_pos rfl] at H;exact H
             clear H
             have H:=H1
             clear H1
             obtain rfl:=Option.some.inj H
             go_wp2
             go_ret
             exact ⟨by first|rfl|(simp [errW_none,errW_some] <;> rfl)|(simp [*,errW_none,errW_some] <;> rfl),bg HB.out GE101 GE101⟩
            ·replace c19:=Bool.eq_false_iff.mpr c19
             subst c19
             have H1:(if (rd l0_1 x27_2) = (-1) then ((q8.f (rd l0_0 x27_2)).bind fun t104=>(if t104 = true then (q9.l0 kj13 (l0_0.length:Int) l0_0 (l0_0.length:Int) (wrap64 (x27_2 + 1)) l0_0 l0_1) else (some false))) else (if 0 ≤ (rd l0_1 x27_2) then (if (rd l0_1 x27_2) < (l0_0.length:Int) then ((q8.f (rd l0_0 (rd l0_1 x27_2))).bind fun t106=>(if t106 = true then ((q8.f (rd l0_0 x27_2)).bind fun t107=>(if t107 = true then (q9.l0 kj13 (l0_0.length:Int) l0_0 (l0_0.length:Int) (wrap64 (x27_2 + 1)) l0_0 l0_1) else (if (rd l0_0 (rd l0_1 x27_2)) = 1 then (q9.l0 kj13 (l0_0.length:Int) l0_0 (l0_0.length:Int) (wrap64 (x27_2 + 1)) l0_0 l0_1) else (some false)))) else (some false))) else (none)) else (none))) = some r:=by rw [if_neg (show ¬ (false = true) by decide)] at H;exact H
             clear H
             have H:=H1
             clear H1
             by_cases c20:(rd l0_1 x27_2) = (-1)
             ·rw [if_pos c20] at H
              have c20b0:((rd l0_1 x27_2) == (-1)) = true:=beq_iff_eq.mpr c20
              have c20b1:((rd l0_1 x27_2) != (-1)) = false:=bne_eq_false_iff_eq.mpr c20
              clear c20
              replace H:=Option.bind_eq_some_iff.mp H
              obtain ⟨t104,A210,H⟩:=H
              replace H:(if t104 = true then (q9.l0 kj13 (l0_0.length:Int) l0_0 (l0_0.length:Int) (wrap64 (x27_2 + 1)) l0_0 l0_1) else (some false)) = some r:=H
              have A21:=Aside0.mk A210
              clear A210
              by_cases c22:t104 = true
              ·subst c22
               have H1:(q9.l0 kj13 (l0_0.length:Int) l0_0 (l0_0.length:Int) (wrap64 (x27_2 + 1)) l0_0 l0_1) = some r:=by rw [if_pos rfl] at H;exact H
               clear H
               have H:=H1
               clear H1
               have H':=Aside0.mk H
               clear H
               go_wp2_with (first|(go_at_call 45;(with_reducible refine (q8.calls (rd l0_0 x27_2) true _ A21.out).mono ?_);rintro e w' ⟨rfl,⟨nd,rfl⟩⟩))
               go_roundg kj13
               case measure=>have:=HJ1.out;have:=HK2.out;have:=HJ13.out;omega
               case rel=>exact ⟨(wrap64 (x27_2 + 1)),oE,H',⟨by have:=HJ1.out;have:=HK2.out;have:=HJ13.out;omega⟩,⟨hq BK101.out⟩,⟨bg HB.out GE101 GE101⟩⟩
              ·replace c22:=Bool.eq_false_iff.mpr c22
               subst c22
               have H1:(some false) = some r:=by rw [if_neg (show ¬ (false = true) by decide)] at H;exact H
               clear H
               have H:=H1
               clear H1
               obtain rfl:=Option.some.inj H
               go_wp2_with (first|(go_at_call 45;(with_reducible refine (q8.calls (rd l0_0 x27_2) false _ A21.out).mono ?_);rintro e w' ⟨rfl,⟨nd,rfl⟩⟩))
               go_ret
               exact ⟨by first|rfl|(simp [errW_none,errW_some] <;> rfl)|(simp [*,errW_none,errW_some] <;> rfl),bg HB.out GE101 GE101⟩
             ·rw [if_neg c20] at H
              have c20b0:((rd l0_1 x27_2) == (-1)) = false:=beq_eq_false_iff_ne.mpr c20
              have c20b1:((rd l0_1 x27_2) != (-1)) = true:=bne_iff_ne.mpr c20
              by_cases c23:0 ≤ (rd l0_1 x27_2)
              ·rw [if_pos c23] at H
               have c23b0:decide (0 ≤ (rd l0_1 x27_2)) = true:=decide_eq_true c23
               clear c23
               by_cases c24:(rd l0_1 x27_2) < (l0_0.length:Int)
               ·rw [if_pos c24] at H
                have c24b0:decide ((rd l0_1 x27_2) < (l0_0.length:Int)) = true:=decide_eq_true c24
                clear c24
                replace H:=Option.bind_eq_some_iff.mp H
                obtain ⟨t106,A250,H⟩:=H
                replace H:(if t106 = true then ((q8.f (rd l0_0 x27_2)).bind fun t107=>(if t107 = true then (q9.l0 kj13 (l0_0.length:Int) l0_0 (l0_0.length:Int) (wrap64 (x27_2 + 1)) l0_0 l0_1) else (if (rd l0_0 (rd l0_1 x27_2)) = 1 then (q9.l0 kj13 (l0_0.length:Int) l0_0 (l0_0.length:Int) (wrap64 (x27_2 + 1)) l0_0 l0_1) else (some false)))) else (some false)) = some r:=H
                have A25:=Aside0.mk A250
                clear A250
                by_cases c26:t106 = true
                ·subst c26
                 have H1:((q8.f (rd l0_0 x27_2)).bind fun t107=>(if t107 = true then (q9.l0 kj13 (l0_0.length:Int) l0_0 (l0_0.length:Int) (wrap64 (x27_2 + 1)) l0_0 l0_1) else (if (rd l0_0 (rd l0_1 x27_2)) = 1 then (q9.l0 kj13 (l0_0.length:Int) l0_0 (l0_0.length:Int) (wrap64 (x27_2 + 1)) l0_0 l0_1) else (some false)))) = some r:=by rw [if_pos rfl] at H;exact H
                 clear H
                 have H:=H1
                 clear H1
                 replace H:=Option.bind_eq_some_iff.mp H
                 obtain ⟨t107,A270,H⟩:=H
                 replace H:(if t107 = true then (q9.l0 kj13 (l0_0.length:Int) l0_0 (l0_0.length:Int) (wrap64 (x27_2 + 1)) l0_0 l0_1) else (if (rd l0_0 (rd l0_1 x27_2)) = 1 then (q9.l0 kj13 (l0_0.length:Int) l0_0 (l0_0.length:Int) (wrap64 (x27_2 + 1)) l0_0 l0_1) else (some false))) = some r:=H
                 have A27:=Aside0.mk A270
                 clear A270
                 by_cases c28:t107 = true
                 ·subst c28
                  have H1:(q9.l0 kj13 (l0_0.length:Int) l0_0 (l0_0.length:Int) (wrap64 (x27_2 + 1)) l0_0 l0_1) = some r:=by rw [if_pos rfl] at H;exact H
                  clear H
                  have H:=H1
                  clear H1
                  have H':=Aside0.mk H
                  clear H
                  have hcz29_0:wc.cell? ⟨gb101,0,none⟩ = some (.slice (some ad102) l0_0.length c0_0):=(blk_cell BK101.out 0).trans rfl
                  have hcz29_1:wc.cell? ⟨gb101,1,none⟩ = some (.slice (some ad103) l0_1.length c0_1):=(blk_cell BK101.out 1).trans rfl
                  have hfz29_0:=blk_frozen BK101.out 0
                  have hfz29_1:=blk_frozen BK101.out 1
                  have p105:0 ≤ ((rd l0_1 x27_2):Int):=oA
                  have q105:(rd l0_1 x27_2) < (l0_0.length:Int):=oA
                  obtain ⟨ad105,e105,hx105_0⟩:=Kd.at_int HR0_0.out (rd l0_1 x27_2) p105 q105
                  obtain rfl:ad102 = ad105:=(by injection e105)
                  replace hx105_0:=(HB.out.cell (World.block_lt_of_cell? w _ hx105_0)).trans hx105_0
                  replace p105:=eq_true p105
                  replace q105:=eq_true q105
                  go_wp2_with (first|(go_at_call 45;(with_reducible refine (q8.calls (rd l0_0 (rd l0_1 x27_2)) true _ A25.out).mono ?_);rintro e w' ⟨rfl,⟨nd,rfl⟩⟩)|(go_at_call 45;(with_reducible refine (q8.calls (rd l0_0 x27_2) true _ A27.out).mono ?_);rintro e w' ⟨rfl,⟨nd,rfl⟩⟩))
                  go_roundg kj13
                  case measure=>have:=HJ1.out;have:=HK2.out;have:=HJ13.out;omega
                  case rel=>exact ⟨(wrap64 (x27_2 + 1)),oE,H',⟨by have:=HJ1.out;have:=HK2.out;have:=HJ13.out;omega⟩,⟨hq BK101.out⟩,⟨bg HB.out GE101 GE101⟩⟩
                 ·replace c28:=Bool.eq_false_iff.mpr c28
                  subst c28
                  have H1:(if (rd l0_0 (rd l0_1 x27_2)) = 1 then (q9.l0 kj13 (l0_0.length:Int) l0_0 (l0_0.length:Int) (wrap64 (x27_2 + 1)) l0_0 l0_1) else (some false)) = some r:=by rw [if_neg (show ¬ (false = true) by decide)] at H;exact H
                  clear H
                  have H:=H1
                  clear H1
                  by_cases c30:(rd l0_0 (rd l0_1 x27_2)) = 1
                  ·rw [if_pos c30] at H
                   have c30b0:((rd l0_0 (rd l0_1 x27_2)) == 1) = true:=beq_iff_eq.mpr c30
                   have c30b1:((rd l0_0 (rd l0_1 x27_2)) != 1) = false:=bne_eq_false_iff_eq.mpr c30
                   clear c30
                   have H':=Aside0.mk H
                   clear H
                   have hcz31_0:wc.cell? ⟨gb101,0,none⟩ = some (.slice (some ad102) l0_0.length c0_0):=(blk_cell BK101.out 0).trans rfl
                   have hcz31_1:wc.cell? ⟨gb101,1,none⟩ = some (.slice (some ad103) l0_1.length c0_1):=(blk_cell BK101.out 1).trans rfl
                   have hfz31_0:=blk_frozen BK101.out 0
                   have hfz31_1:=blk_frozen BK101.out 1
                   have p105:0 ≤ ((rd l0_1 x27_2):Int):=oA
                   have q105:(rd l0_1 x27_2) < (l0_0.length:Int):=oA
                   obtain ⟨ad105,e105,hx105_0⟩:=Kd.at_int HR0_0.out (rd l0_1 x27_2) p105 q105
                   obtain rfl:ad102 = ad105:=(by injection e105)
                   replace hx105_0:=(HB.out.cell (World.block_lt_of_cell? w _ hx105_0)).trans hx105_0
                   replace p105:=eq_true p105
                   replace q105:=eq_true q105
                   go_wp2_with (first|(go_at_call 45;(with_reducible refine (q8.calls (rd l0_0 (rd l0_1 x27_2)) true _ A25.out).mono ?_);rintro e w' ⟨rfl,⟨nd,rfl⟩⟩)|(go_at_call 45;(with_reducible refine (q8.calls (rd l0_0 x27_2) false _ A27.out).mono ?_);rintro e w' ⟨rfl,⟨nd,rfl⟩⟩;have p108:0 ≤ ((rd l0_1 x27_2):Int):=oA;have q108:(rd l0_1 x27_2) < (l0_0.length:Int):=oA;obtain ⟨ad108,e108,hx108_0⟩:=Kd.at_int HR0_0.out (rd l0_1 x27_2) p108 q108;obtain rfl:ad102 = ad108:=(by injection e108);replace hx108_0:=(HB.out.cell (World.block_lt_of_cell? w _ hx108_0)).trans hx108_0;replace p108:=eq_true p108;replace q108:=eq_true q108))
                   go_roundg kj13
                   case measure=>have:=HJ1.out;have:=HK2.out;have:=HJ13.out;omega
                   case rel=>exact ⟨(wrap64 (x27_2 + 1)),oE,H',⟨by have:=HJ1.out;have:=HK2.out;have:=HJ13.out;omega⟩,⟨hq BK101.out⟩,⟨bg HB.out GE101 GE101⟩⟩
                  ·rw [if_neg c30] at H
                   have c30b0:((rd l0_0 (rd l0_1 x27_2)) == 1) = false:=beq_eq_false_iff_ne.mpr c30
                   have c30b1:((rd l0_0 (rd l0_1 x27_2)) != 1) = true:=bne_iff_ne.mpr c30
                   obtain rfl:=Option.some.inj H
                   have hcz32_0:wc.cell? ⟨gb101,0,none⟩ = some (.slice (some ad102) l0_0.length c0_0):=(blk_cell BK101.out 0).trans rfl
                   have hcz32_1:wc.cell? ⟨gb101,1,none⟩ = some (.slice (some ad103) l0_1.length c0_1):=(blk_cell BK101.out 1).trans rfl
                   have hfz32_0:=blk_frozen BK101.out 0
                   have hfz32_1:=blk_frozen BK101.out 1
                   have p105:0 ≤ ((rd l0_1 x27_2):Int):=oA
                   have q105:(rd l0_1 x27_2) < (l0_0.length:Int):=oA
                   obtain ⟨ad105,e105,hx105_0⟩:=Kd.at_int HR0_0.out (rd l0_1 x27_2) p105 q105
                   obtain rfl:ad102 = ad105:=(by injection e105)
                   replace hx105_0:=(HB.out.cell (World.block_lt_of_cell? w _ hx105_0)).trans hx105_0
                   replace p105:=eq_true p105
                   replace q105:=eq_true q105
                   go_wp2_with (first|(go_at_call 45;(with_reducible refine (q8.calls (rd l0_0 (rd l0_1 x27_2)) true _ A25.out).mono ?_);rintro e w' ⟨rfl,⟨nd,rfl⟩⟩)|(go_at_call 45;(with_reducible refine (q8.calls (rd l0_0 x27_2) false _ A27.out).mono ?_);rintro e w' ⟨rfl,⟨nd,rfl⟩⟩;have p108:0 ≤ ((rd l0_1 x27_2):Int):=oA;have q108:(rd l0_1 x27_2) < (l0_0.length:Int):=oA;obtain ⟨ad108,e108,hx108_0⟩:=Kd.at_int HR0_0.out (rd l0_1 x27_2) p108 q108;obtain rfl:ad102 = ad108:=(by injection e108);replace hx108_0:=(HB.out.cell (World.block_lt_of_cell? w _ hx108_0)).trans hx108_0;replace p108:=eq_true p108;replace q108:=eq_true q108))
                   go_ret
                   exact ⟨by first|rfl|(simp [errW_none,errW_some] <;> rfl)|(simp [*,errW_none,errW_some] <;> rfl),bg HB.out GE101 GE101⟩
                ·replace c26:=Bool.eq_false_iff.mpr c26
                 subst c26
                 have H1:(some false) = some r:=by rw [if_neg (show ¬ (false = true) by decide)] at H;exact H
                 clear H
                 have H:=H1
                 clear H1
                 obtain rfl:=Option.some.inj H
                 have hcz33_0:wc.cell? ⟨gb101,0,none⟩ = some (.slice (some ad102) l0_0.length c0_0):=(blk_cell BK101.out 0).trans rfl
                 have hcz33_1:wc.cell? ⟨gb101,1,none⟩ = some (.slice (some ad103) l0_1.length c0_1):=(blk_cell BK101.out 1).trans rfl
                 have hfz33_0:=blk_frozen BK101.out 0
                 have hfz33_1:=blk_frozen BK101.out 1
                 have p105:0 ≤ ((rd l0_1 x27_2):Int):=oA
                 have q105:(rd l0_1 x27_2) < (l0_0.length:Int):=oA
                 obtain ⟨ad105,e105,hx105_0⟩:=Kd.at_int HR0_0.out (rd l0_1 x27_2) p105 q105
                 obtain rfl:ad102 = ad105:=(by injection e105)
                 replace hx105_0:=(HB.out.cell (World.block_lt_of_cell? w _ hx105_0)).trans hx105_0
                 replace p105:=eq_true p105
                 replace q105:=eq_true q105
                 go_wp2_with (first|(go_at_call 45;(with_reducible refine (q8.calls (rd l0_0 (rd l0_1 x27_2)) false _ A25.out).mono ?_);rintro e w' ⟨rfl,⟨nd,rfl⟩⟩))
                 go_ret
                 exact ⟨by first|rfl|(simp [errW_none,errW_some] <;> rfl)|(simp [*,errW_none,errW_some] <;> rfl),bg HB.out GE101 GE101⟩
               ·rw [if_neg c24] at H
                exact absurd H (by simp)
              ·rw [if_neg c23] at H
               exact absurd H (by simp)
         ·rw [if_neg c13] at H
          exact absurd H (by simp)
        ·rw [if_neg c12] at H
         exact absurd H (by simp)
       ·rw [if_neg c11] at H
        exact absurd H (by simp)
      ·rw [if_neg c10] at H
       have c10b0:decide (x27_2 < (l0_0.length:Int)) = false:=decide_eq_false c10
       clear c10
       have H':=Aside0.mk H
       clear H
       go_wp2
       go_loopg [7] k2 (fun kq v7 w'=>∃ (x7_3:Int),v7 = .int .i64 x7_3 ∧ Aside0 (q9.l1 kq (l0_0.length:Int) x7_3 l0_0 l0_1 = some r) ∧ Aside0 (kq ≤ k2) ∧ Aside0 (w'.heap[gb101]? = some (.cells #[(.slice A0_0 l0_0.length c0_0),(.slice A0_1 l0_1.length c0_1)] 24 (0,0))) ∧ Aside0 (Below w.heap.size w w'))
       case atStart=>exact ⟨((-1)),oE,H',⟨Nat.le_refl _⟩,⟨hq BK101.out⟩,⟨bg HB.out GE101 GE101⟩⟩
       case round =>
        clear H'
        try clear c1
        try clear p1
        try clear q1
        try clear hx1
        try clear c2
        try clear p2
        try clear c3
        try clear c5
        try clear c5b0
        try clear c5b1
        try clear c6
        try clear c6b0
        try clear c6b1
        try clear p6
        try clear c8
        try clear c10
        try clear c10b0
        try clear p10
        try clear q10
        try clear hx10
        try clear c11
        try clear c11b0
        try clear c12
        try clear c12b0
        try clear c13
        try clear c13b0
        try clear c16
        try clear c16b0
        try clear c17
        try clear c17b0
        try clear c18
        try clear c18b0
        try clear c19
        try clear c20
        try clear c20b0
        try clear c20b1
        try clear c22
        try clear c23
        try clear c23b0
        try clear c24
        try clear c24b0
        try clear c26
        try clear c28
        try clear c30
        try clear c30b0
        try clear c30b1
        try clear hcz15_0
        try clear hcz15_1
        try clear hcz29_0
        try clear hcz29_1
        try clear hcz31_0
        try clear hcz31_1
        try clear hcz32_0
        try clear hcz32_1
        try clear hcz33_0
        try clear hcz33_1
        try clear hcz4_0
        try clear hcz4_1
        try clear hcz7_0
        try clear hcz7_1
        try clear hcz9_0
        try clear hcz9_1
        try clear hfz15_0
        try clear hfz15_1
        try clear hfz29_0
        try clear hfz29_1
        try clear hfz31_0
        try clear hfz31_1
        try clear hfz32_0
        try clear hfz32_1
        try clear hfz33_0
        try clear hfz33_1
        try clear hfz4_0
        try clear hfz4_1
        try clear hfz7_0
        try clear hfz7_1
        try clear hfz9_0
        try clear hfz9_1
        try clear hx102_0
        try clear hx103_0
        try clear hx105_0
        try clear hx108_0
        try clear p1
        try clear p10
        try clear p102
        try clear p103
        try clear p105
        try clear p108
        try clear p2
        try clear q1
        try clear q10
        try clear q102
        try clear q103
        try clear q105
        try clear q108
        obtain ⟨x7_3,rfl,HA,HK3,BK101,HB⟩:=hrel
        cases gk with
        | zero=>exact absurd HA.out (by simp [q9.l1])
        | succ k3 =>
         have H:=HA.out
         clear HA
         simp only [q9.l1] at H
         by_cases c34:x7_3 < (l0_0.length:Int)
         ·rw [if_pos c34] at H
          have c34b0:decide (x7_3 < (l0_0.length:Int)) = true:=decide_eq_true c34
          clear c34
          by_cases c35:x7_3 = (-1)
          ·rw [if_pos c35] at H
           have c35b0:(x7_3 == (-1)) = true:=beq_iff_eq.mpr c35
           have c35b1:(x7_3 != (-1)) = false:=bne_eq_false_iff_eq.mpr c35
           clear c35
           replace H:=Option.bind_eq_some_iff.mp H
           obtain ⟨t109,A360,H⟩:=H
           replace H:(if t109 < 0 then (some false) else (q9.l1 k3 (l0_0.length:Int) (wrap64 (x7_3 + 1)) l0_0 l0_1)) = some r:=H
           have A36:=Aside0.mk A360
           clear A360
           by_cases c37:t109 < 0
           ·rw [if_pos c37] at H
            have c37b0:decide (t109 < 0) = true:=decide_eq_true c37
            clear c37
            obtain rfl:=Option.some.inj H
            have hcz38_0:wr.cell? ⟨gb101,0,none⟩ = some (.slice A0_0 l0_0.length c0_0):=(blk_cell BK101.out 0).trans rfl
            have hcz38_1:wr.cell? ⟨gb101,1,none⟩ = some (.slice A0_1 l0_1.length c0_1):=(blk_cell BK101.out 1).trans rfl
            have hfz38_0:=blk_frozen BK101.out 0
            have hfz38_1:=blk_frozen BK101.out 1
            go_wp2_with (first|(go_at_call 30;(with_reducible refine (q6.calls k3 _ _ l0_0 _ _ l0_1 x7_3 t109 _ ?side1 ?side2 ?side3 ?side4 A36.out).mono ?_);(case side1=>exact cq (Kd.C_below HR0_0.out HB.out));(case side2=>exact HC0_0.out);(case side3=>exact cq (Kd.C_below HR0_1.out HB.out));(case side4=>exact HC0_1.out);rintro e w39 ⟨rfl,hb⟩;have n0_:=zk (blk_below (g:=gb101) (o:=.cells #[.slice A0_0 l0_0.length c0_0,.slice A0_1 l0_1.length c0_1] 24 (0,0)) (hq BK101.out) hb);have n1_:=zk (below_step (bg HB.out GE101 GE101) hb);clear BK101;clear HB;have BK101:=n0_;have HB:=n1_;clear n0_ n1_;(try clear hb);(try clear hb2);(try clear hk);(try clear hi)))
            go_ret
            exact ⟨by first|rfl|(simp [errW_none,errW_some] <;> rfl)|(simp [*,errW_none,errW_some] <;> rfl),bg HB.out GE101 GE101⟩
           ·rw [if_neg c37] at H
            have c37b0:decide (t109 < 0) = false:=decide_eq_false c37
            clear c37
            have H':=Aside0.mk H
            clear H
            have hcz40_0:wr.cell? ⟨gb101,0,none⟩ = some (.slice A0_0 l0_0.length c0_0):=(blk_cell BK101.out 0).trans rfl
            have hcz40_1:wr.cell? ⟨gb101,1,none⟩ = some (.slice A0_1 l0_1.length c0_1):=(blk_cell BK101.out 1).trans rfl
            have hfz40_0:=blk_frozen BK101.out 0
            have hfz40_1:=blk_frozen BK101.out 1
            go_wp2_with (first|(go_at_call 30;(with_reducible refine (q6.calls k3 _ _ l0_0 _ _ l0_1 x7_3 t109 _ ?side1 ?side2 ?side3 ?side4 A36.out).mono ?_);(case side1=>exact cq (Kd.C_below HR0_0.out HB.out));(case side2=>exact HC0_0.out);(case side3=>exact cq (Kd.C_below HR0_1.out HB.out));(case side4=>exact HC0_1.out);rintro e w41 ⟨rfl,hb⟩;have n0_:=zk (blk_below (g:=gb101) (o:=.cells #[.slice A0_0 l0_0.length c0_0,.slice A0_1 l0_1.length c0_1] 24 (0,0)) (hq BK101.out) hb);have n1_:=zk (below_step (bg HB.out GE101 GE101) hb);clear BK101;clear HB;have BK101:=n0_;have HB:=n1_;clear n0_ n1_;(try clear hb);(try clear hb2);(try clear hk);(try clear hi)))
            go_roundg k3
            case measure=>have:=HJ1.out;have:=HK2.out;have:=HK3.out;omega
            case rel=>exact ⟨(wrap64 (x7_3 + 1)),oE,H',⟨by have:=HJ1.out;have:=HK2.out;have:=HK3.out;omega⟩,⟨hq BK101.out⟩,⟨bg HB.out GE101 GE101⟩⟩
          ·rw [if_neg c35] at H
           have c35b0:(x7_3 == (-1)) = false:=beq_eq_false_iff_ne.mpr c35
           have c35b1:(x7_3 != (-1)) = true:=bne_iff_ne.mpr c35
           replace H:=Option.bind_eq_some_iff.mp H
           obtain ⟨t110,A420,H⟩:=H
           replace H:(if (t110.length:Int) > 0 then ((q6.f k3 l0_0 l0_1 x7_3).bind fun t113=>(if t113 < 0 then (some false) else (q9.l1 k3 (l0_0.length:Int) (wrap64 (x7_3 + 1)) l0_0 l0_1))) else (q9.l1 k3 (l0_0.length:Int) (wrap64 (x7_3 + 1)) l0_0 l0_1)) = some r:=H
           have A42:=Aside0.mk A420
           clear A420
           by_cases c43:(t110.length:Int) > 0
           ·rw [if_pos c43] at H
            have c43b0:decide (0 < (t110.length:Int)) = true:=decide_eq_true c43
            have c43b1:decide (0 < t110.length) = true:=decide_eq_true (by omega)
            clear c43
            replace H:=Option.bind_eq_some_iff.mp H
            obtain ⟨t113,A440,H⟩:=H
            replace H:(if t113 < 0 then (some false) else (q9.l1 k3 (l0_0.length:Int) (wrap64 (x7_3 + 1)) l0_0 l0_1)) = some r:=H
            have A44:=Aside0.mk A440
            clear A440
            by_cases c45:t113 < 0
            ·rw [if_pos c45] at H
             have c45b0:decide (t113 < 0) = true:=decide_eq_true c45
             clear c45
             obtain rfl:=Option.some.inj H
             have hcz46_0:wr.cell? ⟨gb101,0,none⟩ = some (.slice A0_0 l0_0.length c0_0):=(blk_cell BK101.out 0).trans rfl
             have hcz46_1:wr.cell? ⟨gb101,1,none⟩ = some (.slice A0_1 l0_1.length c0_1):=(blk_cell BK101.out 1).trans rfl
             have hfz46_0:=blk_frozen BK101.out 0
             have hfz46_1:=blk_frozen BK101.out 1
             go_wp2_with (first|(go_at_call 25;(with_reducible refine (q10.calls k3 _ _ l0_0 _ _ l0_1 x7_3 t110 _ ?side1 ?side2 ?side3 ?side4 A42.out).mono ?_);(case side1=>exact cq (Kd.C_below HR0_0.out HB.out));(case side2=>exact HC0_0.out);(case side3=>exact cq (Kd.C_below HR0_1.out HB.out));(case side4=>exact HC0_1.out);rintro e w47 ⟨v111,rfl,ho0,hb⟩;have n0_:=zk (Kd.R_lower ho0 (below_size (bg HB.out GE101 GE101)));have n1_:=zk (blk_below (g:=gb101) (o:=.cells #[.slice A0_0 l0_0.length c0_0,.slice A0_1 l0_1.length c0_1] 24 (0,0)) (hq BK101.out) hb);have n2_:=zk (below_step (bg HB.out GE101 GE101) hb);clear BK101;clear HB;have HO112:=n0_;have BK101:=n1_;have HB:=n2_;clear n0_ n1_ n2_;(try clear hb);(try clear hb2);(try clear hk);(try clear hi);(try clear ho0);obtain ⟨Ao48,co48,eo48⟩:=Kd.R_slice HO112.out;subst eo48;have hcz49_0:w47.cell? ⟨gb101,0,none⟩ = some (.slice A0_0 l0_0.length c0_0):=(blk_cell BK101.out 0).trans rfl;have hcz49_1:w47.cell? ⟨gb101,1,none⟩ = some (.slice A0_1 l0_1.length c0_1):=(blk_cell BK101.out 1).trans rfl;have hfz49_0:=blk_frozen BK101.out 0;have hfz49_1:=blk_frozen BK101.out 1)|(go_at_call 30;(with_reducible refine (q6.calls k3 _ _ l0_0 _ _ l0_1 x7_3 t113 _ ?side1 ?side2 ?side3 ?side4 A44.out).mono ?_);(case side1=>exact cq (Kd.C_below HR0_0.out HB.out));(case side2=>exact HC0_0.out);(case side3=>exact cq (Kd.C_below HR0_1.out HB.out));(case side4=>exact HC0_1.out);rintro e w50 ⟨rfl,hb⟩;have n0_:=zk (Kd.R_below (rq HO112.out) hb);have n1_:=zk (blk_below (g:=gb101) (o:=.cells #[.slice A0_0 l0_0.length c0_0,.slice A0_1 l0_1.length c0_1] 24 (0,0)) (hq BK101.out) hb);have n2_:=zk (below_step (bg HB.out GE101 GE101) hb);clear HO112;clear BK101;clear HB;have HO112:=n0_;have BK101:=n1_;have HB:=n2_;clear n0_ n1_ n2_;(try clear hb);(try clear hb2);(try clear hk);(try clear hi)))
             go_ret
             exact ⟨by first|rfl|(simp [errW_none,errW_some] <;> rfl)|(simp [*,errW_none,errW_some] <;> rfl),bg HB.out GE101 GE101⟩
            ·rw [if_neg c45] at H
             have c45b0:decide (t113 < 0) = false:=decide_eq_false c45
             clear c45
             have H':=Aside0.mk H
             clear H
             have hcz51_0:wr.cell? ⟨gb101,0,none⟩ = some (.slice A0_0 l0_0.length c0_0):=(blk_cell BK101.out 0).trans rfl
             have hcz51_1:wr.cell? ⟨gb101,1,none⟩ = some (.slice A0_1 l0_1.length c0_1):=(blk_cell BK101.out 1).trans rfl
             have hfz51_0:=blk_frozen BK101.out 0
             have hfz51_1:=blk_frozen BK101.out 1
             go_wp2_with (first|(go_at_call 25;(with_reducible refine (q10.calls k3 _ _ l0_0 _ _ l0_1 x7_3 t110 _ ?side1 ?side2 ?side3 ?side4 A42.out).mono ?_);(case side1=>exact cq (Kd.C_below HR0_0.out HB.out));(case side2=>exact HC0_0.out);(case side3=>exact cq (Kd.C_below HR0_1.out HB.out));(case side4=>exact HC0_1.out);rintro e w52 ⟨v111,rfl,ho0,hb⟩;have n0_:=zk (Kd.R_lower ho0 (below_size (bg HB.out GE101 GE101)));have n1_:=zk (blk_below (g:=gb101) (o:=.cells #[.slice A0_0 l0_0.length c0_0,.slice A0_1 l0_1.length c0_1] 24 (0,0)) (hq BK101.out) hb);have n2_:=zk (below_step (bg HB.out GE101 GE101) hb);clear BK101;clear HB;have HO112:=n0_;have BK101:=n1_;have HB:=n2_;clear n0_ n1_ n2_;(try clear hb);(try clear hb2);(try clear hk);(try clear hi);(try clear ho0);obtain ⟨Ao53,co53,eo53⟩:=Kd.R_slice HO112.out;subst eo53;have hcz54_0:w52.cell? ⟨gb101,0,none⟩ = some (.slice A0_0 l0_0.length c0_0):=(blk_cell BK101.out 0).trans rfl;have hcz54_1:w52.cell? ⟨gb101,1,none⟩ = some (.slice A0_1 l0_1.length c0_1):=(blk_cell BK101.out 1).trans rfl;have hfz54_0:=blk_frozen BK101.out 0;have hfz54_1:=blk_frozen BK101.out 1)|(go_at_call 30;(with_reducible refine (q6.calls k3 _ _ l0_0 _ _ l0_1 x7_3 t113 _ ?side1 ?side2 ?side3 ?side4 A44.out).mono ?_);(case side1=>exact cq (Kd.C_below HR0_0.out HB.out));(case side2=>exact HC0_0.out);(case side3=>exact cq (Kd.C_below HR0_1.out HB.out));(case side4=>exact HC0_1.out);rintro e w55 ⟨rfl,hb⟩;have n0_:=zk (Kd.R_below (rq HO112.out) hb);have n1_:=zk (blk_below (g:=gb101) (o:=.cells #[.slice A0_0 l0_0.length c0_0,.slice A0_1 l0_1.length c0_1] 24 (0,0)) (hq BK101.out) hb);have n2_:=zk (below_step (bg HB.out GE101 GE101) hb);clear HO112;clear BK101;clear HB;have HO112:=n0_;have BK101:=n1_;have HB:=n2_;clear n0_ n1_ n2_;(try clear hb);(try clear hb2);(try clear hk);(try clear hi)))
             go_roundg k3
             case measure=>have:=HJ1.out;have:=HK2.out;have:=HK3.out;omega
             case rel=>exact ⟨(wrap64 (x7_3 + 1)),oE,H',⟨by have:=HJ1.out;have:=HK2.out;have:=HK3.out;omega⟩,⟨hq BK101.out⟩,⟨bg HB.out GE101 GE101⟩⟩
           ·rw [if_neg c43] at H
            have c43b0:decide (0 < (t110.length:Int)) = false:=decide_eq_false c43
            have c43b1:decide (0 < t110.length) = false:=decide_eq_false (by omega)
            clear c43
            have H':=Aside0.mk H
            clear H
            have hcz56_0:wr.cell? ⟨gb101,0,none⟩ = some (.slice A0_0 l0_0.length c0_0):=(blk_cell BK101.out 0).trans rfl
            have hcz56_1:wr.cell? ⟨gb101,1,none⟩ = some (.slice A0_1 l0_1.length c0_1):=(blk_cell BK101.out 1).trans rfl
            have hfz56_0:=blk_frozen BK101.out 0
            have hfz56_1:=blk_frozen BK101.out 1
            go_wp2_with (first|(go_at_call 25;(with_reducible refine (q10.calls k3 _ _ l0_0 _ _ l0_1 x7_3 t110 _ ?side1 ?side2 ?side3 ?side4 A42.out).mono ?_);(case side1=>exact cq (Kd.C_below HR0_0.out HB.out));(case side2=>exact HC0_0.out);(case side3=>exact cq (Kd.C_below HR0_1.out HB.out));(case side4=>exact HC0_1.out);rintro e w57 ⟨v111,rfl,ho0,hb⟩;have n0_:=zk (Kd.R_lower ho0 (below_size (bg HB.out GE101 GE101)));have n1_:=zk (blk_below (g:=gb101) (o:=.cells #[.slice A0_0 l0_0.length c0_0,.slice A0_1 l0_1.length c0_1] 24 (0,0)) (hq BK101.out) hb);have n2_:=zk (below_step (bg HB.out GE101 GE101) hb);clear BK101;clear HB;have HO112:=n0_;have BK101:=n1_;have HB:=n2_;clear n0_ n1_ n2_;(try clear hb);(try clear hb2);(try clear hk);(try clear hi);(try clear ho0);obtain ⟨Ao58,co58,eo58⟩:=Kd.R_slice HO112.out;subst eo58))
            go_roundg k3
            case measure=>have:=HJ1.out;have:=HK2.out;have:=HK3.out;omega
            case rel=>exact ⟨(wrap64 (x7_3 + 1)),oE,H',⟨by have:=HJ1.out;have:=HK2.out;have:=HK3.out;omega⟩,⟨hq BK101.out⟩,⟨bg HB.out GE101 GE101⟩⟩
         ·rw [if_neg c34] at H
          have c34b0:decide (x7_3 < (l0_0.length:Int)) = false:=decide_eq_false c34
          clear c34
          obtain rfl:=Option.some.inj H
          go_wp2
          go_ret
          exact ⟨by first|rfl|(simp [errW_none,errW_some] <;> rfl)|(simp [*,errW_none,errW_some] <;> rfl),bg HB.out GE101 GE101⟩
end Go.Proofs.Ytnomeokicfpidaa.Q
namespace Go.Proofs.Ytnomeokicfpidaa.FM
open Go.RowKit Go.Proofs.YtnomeokicfpidaaW.PrintWords Go.Proofs.YtnomeokicfpidaaW.PrintLast Go.Proofs.YtnomeokicfpidaaW.PrintMore Go.Proofs.Ytnomeokicfpidaa.Q
attribute [local go_sem] max2_int min2_int max_two min_two max_three min_three max_four min_four
set_option linter.unusedVariables false
set_option linter.unusedSimpArgs false
theorem info3:∃ i z,Try.prog.info? 3 = some i ∧ i.zero = some z ∧ i.size = 1 ∧ i.bytes = 8 ∧ z = .int .i64 0:=⟨_,_,rfl,rfl,rfl,rfl,rfl⟩
theorem info24:∃ i z,Try.prog.info? 24 = some i ∧ i.zero = some z ∧ i.size = 2 ∧ z = .agg #[.slice none 0 0,.slice none 0 0]:=⟨_,_,rfl,rfl,rfl,rfl⟩
theorem run_slice {o:Oper} {a:Act} {w:World} (l:List Int) (hl:0 < l.length) (hl' : l.length ≤ 1000) (parts:Array (Nat × Operand)) (ho:o.op = .buildSlice 22 l.length parts)
  (hparts:(parts.toList.map fun (i,x)=>(i,a.eval x)) = ((l.map (Value.int .i64)).zipIdx 0).map fun x=>(x.2,x.1)) :
  (execOp a.eval o).run Try.prog w = .ok (.value (.slice (some ⟨w.heap.size,0,none⟩) l.length l.length)) (w.alloc (.cells (nums .i64 l).toArray 3)):=by
 obtain ⟨i,z,h1,h2,h3,h4,h5⟩:=info3
 have:=run_buildSlice (P:=Try.prog) w 22 3 l.length (parts.map fun (i,x)=>(i,a.eval x)) (nums .i64 l).toArray i z Try.underlying22 h1 h2 (by rw [h3];omega) (by rw [h3];omega) (by
  rw [Array.toList_map,hparts,h3]
  exact Great.fill_flat _ _ (fun v hv=>by obtain ⟨n,_,rfl⟩:=List.mem_map.1 hv;rfl) (by simp))
 unfold execOp
 simp only [ho,Sem.run_bind,this,Result.andThen_ok]
 rfl
theorem run_build0 {o:Oper} {a:Act} {w:World} (ho:o.op = .build 24 #[]) :
  (execOp a.eval o).run Try.prog w = .ok (.value (.agg #[.slice none 0 0,.slice none 0 0])) w:=by
 have hu24:=Try.underlying24
 simp [go_sem,ho]
theorem run_build1 {o:Oper} {a:Act} {w:World} {d:Nat} {A:Option Addr} {m c:Nat} (ho:o.op = .build 24 #[(0,.tmp d)]) (h:a.eval (.tmp d) = .slice A m c) :
  (execOp a.eval o).run Try.prog w = .ok (.value (.agg #[.slice A m c,.slice none 0 0])) w:=by
 have hu24:=Try.underlying24
 have h1:a.tmps[d]?.getD undef = .slice A m c:=by simpa [Act.eval] using h
 simp [go_sem,ho,h1]
theorem run_build2 {o:Oper} {a:Act} {w:World} {d d' : Nat} {A A' : Option Addr} {m c m' c' : Nat} (ho:o.op = .build 24 #[(0,.tmp d),(1,.tmp d')]) (h:a.eval (.tmp d) = .slice A m c) (h' : a.eval (.tmp d') = .slice A' m' c') :
  (execOp a.eval o).run Try.prog w = .ok (.value (.agg #[.slice A m c,.slice A' m' c'])) w:=by
 have hu24:=Try.underlying24
 have h1:a.tmps[d]?.getD undef = .slice A m c:=by simpa [Act.eval] using h
 have h2:a.tmps[d']?.getD undef = .slice A' m' c':=by simpa [Act.eval] using h'
 simp [go_sem,ho,h1,h2]
theorem made_nums (k:Nat):madeCells #[Value.int .i64 0] k = (nums .i64 (List.replicate k 0)).toArray:=by
 apply Array.ext'
 apply List.ext_getElem
 ·simp [nums,madeCells]
 ·intro i h1 h2
  simp [nums,madeCells,Nat.mod_one]
theorem run_make {o:Oper} {a:Act} {w:World} (k:Nat) (hk:k ≤ 1000) (ho:o.op = .makeSlice 22 (.const (.int .i64 k)) (.const (.int .i64 k))) :
  (execOp a.eval o).run Try.prog w = .ok (.value (.slice (some ⟨w.heap.size,0,none⟩) k k)) (w.alloc (.cells (nums .i64 (List.replicate k 0)).toArray 3)):=by
 have h:=print_make 22 3 .i64 8 Try.underlying22 (by kernel_rfl) (by omega) k (by omega) w
 rw [made_nums] at h
 unfold execOp
 simp only [ho,Sem.run_bind,BigFrame.eval_const,h,Result.andThen_ok]
 rfl
theorem run_add {o:Oper} {a:Act} {w:World} {d:Nat} {n:Int} (n0:2 ≤ n) (n1:n ≤ 100) (ho:o.op = .binOp .add 3 (.tmp d) (.const (.int .i64 3)) 3) (h:a.eval (.tmp d) = .int .i64 n) :
  (execOp a.eval o).run Try.prog w = .ok (.value (.int .i64 (n + 3))) w:=by
 have hu3:=Try.underlying3
 have h1:a.tmps[d]?.getD undef = .int .i64 n:=by simpa [Act.eval] using h
 have hw:IntKind.i64.wrap (n + 3) = n + 3:=by rw [i64_w];unfold Go.RowKit.wrap64;omega
 simp [go_sem,ho,h1,hu3,hw]
theorem run_neg {o:Oper} {a:Act} {w:World} {d:Nat} {n:Int} (n0:2 ≤ n) (n1:n ≤ 100) (ho:o.op = .unOp .neg 3 (.tmp d)) (h:a.eval (.tmp d) = .int .i64 n) :
  (execOp a.eval o).run Try.prog w = .ok (.value (.int .i64 (-n))) w:=by
 have hu3:=Try.underlying3
 have h1:a.tmps[d]?.getD undef = .int .i64 n:=by simpa [Act.eval] using h
 have hw:IntKind.i64.wrap (-n) = -n:=by rw [i64_w];unfold Go.RowKit.wrap64;omega
 simp [go_sem,ho,h1,hu3,hw]
theorem run_len {o:Oper} {a:Act} {w:World} {d:Nat} {A:Option Addr} (ho:o.op = .call ⟨.builtin .len,#[.tmp d],#[38]⟩) (h:a.eval (.tmp d) = .slice A 12 12) :
  (execOp a.eval o).run Try.prog w = .ok (.value (.int .i64 12)) w:=by
 have h1:a.tmps[d]?.getD undef = .slice A 12 12:=by simpa [Act.eval] using h
 have hu:=Try.underlying38
 simp [go_sem,ho,h1,hu]
def Shps (w:World):List Value → List (List Int × List Int) → Prop
 | [],[]=>True
 | v :: vs,p :: ps=>Shp w v p ∧ Shps w vs ps
 | _,_=>False
theorem Shps.at {w:World}:∀ {vs:List Value} {ps:List (List Int × List Int)},Shps w vs ps → vs.length = ps.length ∧ (∀ v ∈ vs,v.cells.size = 2) ∧ ∀ (j:Nat) p,ps[j]? = some p → ∃ v,vs[j]? = some v ∧ Shp w v p
 | [],[],_=>⟨rfl,by simp,by simp⟩
 | v :: vs,p :: ps,h=>by
  obtain ⟨h1,h2⟩:=h
  obtain ⟨k1,k2,k3⟩:=Shps.at h2
  refine ⟨by simp [k1],?_,?_⟩
  ·intro u hu
   rcases List.mem_cons.1 hu with rfl|hu
   ·obtain ⟨k,q,rfl,_,_⟩:=h1
    rfl
   ·exact k2 u hu
  ·intro j q hj
   cases j with
   | zero =>
    obtain rfl:p = q:=by simpa using hj
    exact ⟨v,rfl,h1⟩
   | succ j=>exact k3 j q (by simpa using hj)
theorem all_of {w:World} {vs:List Value} {ps:List (List Int × List Int)} (h:Shps w vs ps) :
  All (w.alloc (.cells (vs.flatMap fun v=>v.cells.toList).toArray 24)) (.slice (some ⟨w.heap.size,0,none⟩) ps.length ps.length) ps:=by
 obtain ⟨h1,h2,h3⟩:=Shps.at h
 refine ⟨_,_,rfl,heap_alloc_new w _,fun j p hj=>?_⟩
 obtain ⟨v,hv,k,q,rfl,r1,r2⟩:=h3 j p hj
 have hb:Below w.heap.size w (w.alloc (.cells (vs.flatMap fun v=>v.cells.toList).toArray 24)):=below_alloc (Below.refl _ _) _
 refine ⟨k,q,?_,?_,r1.below hb,r2.below hb⟩
 ·rw [List.getElem?_toArray,Great.flat_get (s:=2) (by omega) vs h2,show 2 * j / 2 = j by omega,show 2 * j % 2 = 0 by omega,hv]
  rfl
 ·rw [List.getElem?_toArray,Great.flat_get (s:=2) (by omega) vs h2,show (2 * j + 1) / 2 = j by omega,show (2 * j + 1) % 2 = 1 by omega,hv]
  rfl
theorem run_all {o:Oper} {a:Act} {w:World} (vs:List Value) (hl:vs.length = 12) (h2:∀ v ∈ vs,v.cells.size = 2) (parts:Array (Nat × Operand)) (ho:o.op = .buildSlice 38 12 parts)
  (hparts:(parts.toList.map fun (i,x)=>(i,a.eval x)) = (vs.zipIdx 0).map fun x=>(x.2,x.1)) :
  (execOp a.eval o).run Try.prog w = .ok (.value (.slice (some ⟨w.heap.size,0,none⟩) 12 12)) (w.alloc (.cells (vs.flatMap fun v=>v.cells.toList).toArray 24)):=by
 obtain ⟨i,z,e1,e2,e3,e4⟩:=info24
 have:=run_buildSlice (P:=Try.prog) w 38 24 12 (parts.map fun (i,x)=>(i,a.eval x)) (vs.flatMap fun v=>v.cells.toList).toArray i z Try.underlying38 e1 e2 (by rw [e3];omega) (by rw [e3];omega) (by
  rw [Array.toList_map,hparts,e3]
  exact Great.fill_whole (s:=2) (by omega) _ _ h2 (by simp [hl]))
 unfold execOp
 simp only [ho,Sem.run_bind,this,Result.andThen_ok]
 rfl
noncomputable def ops2:Array Oper:=match Try.f5.body with
 | some (.seq _ (.seq _ (.seq (.seq (.region _ ops _) _) _)))=>ops
 | _=>#[]
theorem dep {md:Region.Mode} {ops:Array Oper} {L:Array Bool} {i:Nat} (hr:i ∈ Region.ready md ops L) (j:Nat) (h:Region.waitsFor md ops i j = true):L.getD j false = true:=by
 obtain ⟨o,ho,e,he,hb,hj⟩:=Region.waitsFor_spec h
 obtain ⟨_,o',ho',hall⟩:=mem_ready.1 hr
 have:o' = o:=Option.some.inj (ho'.symm.trans ho)
 subst this
 rw [← hj]
 exact hall e he hb
section
variable {n:Int} {w0:World} {pre post:List Value} {L:Array Bool} {a:Act} {w:World} {Q:Exit → Act → World → Prop}
theorem step_of (hI:Inv n w0 pre post L a w) (hp:pre.length = 11) {i:Nat} {o:Oper} (ho:ops2[i]? = some o) (hg:o.guard = none) (hd:o.dst = some (11 + i)) (hi:i < 40) {v:Value} {w' : World}
  (hrun:(execOp a.eval o).run Try.prog w = .ok (.value v) w') (hb:Below w.heap.size w w') (hv:∀ s,(sps n)[i]? = some s → s.ok w' v):wpOp Try.prog ops2 Q i (Inv n w0 pre post (L.setIfInBounds i true)) a w:=by
 have hw:Region.wanted o (yielded ops2 a.tmps) = true:=by unfold Region.wanted;rw [hg]
 simp only [wpOp,ho,hw,if_true]
 refine .inl ?_
 unfold Oper.wp
 rw [hrun]
 show Inv _ _ _ _ _ (a.put o.dst v) w'
 rw [hd]
 exact hI.put hp hi rfl hb v hv
theorem step_row (hI:Inv n w0 pre post L a w) (hp:pre.length = 11) (i:Nat) (l:List Int) (hl:0 < l.length) (hl' : l.length ≤ 1000) {o:Oper} {parts:Array (Nat × Operand)} (ho:ops2[i]? = some o) (hg:o.guard = none) (hd:o.dst = some (11 + i)) (hi:i < 40)
  (hop:o.op = .buildSlice 22 l.length parts) (hs:(sps n)[i]? = some (.row l)) (hparts:(parts.toList.map fun (i,x)=>(i,a.eval x)) = ((l.map (Value.int .i64)).zipIdx 0).map fun x=>(x.2,x.1)) :
  wpOp Try.prog ops2 Q i (Inv n w0 pre post (L.setIfInBounds i true)) a w:=by
 refine step_of hI hp ho hg hd hi (run_slice l hl hl' parts hop hparts) (below_alloc (Below.refl _ _) _) (fun s h=>?_)
 obtain rfl:Sp.row l = s:=Option.some.inj (hs.symm.trans h)
 exact Row.blk (heap_alloc_new w _) hl'
theorem step_make (hI:Inv n w0 pre post L a w) (hp:pre.length = 11) (i:Nat) {o:Oper} (ho:ops2[i]? = some o) (hg:o.guard = none) (hd:o.dst = some (11 + i)) (hi:i < 40)
  (hop:o.op = .makeSlice 22 (.const (.int .i64 (25:Nat))) (.const (.int .i64 (25:Nat)))) (hs:(sps n)[i]? = some (.row (List.replicate 25 0))) :
  wpOp Try.prog ops2 Q i (Inv n w0 pre post (L.setIfInBounds i true)) a w:=by
 refine step_of hI hp ho hg hd hi (run_make 25 (by omega) hop) (below_alloc (Below.refl _ _) _) (fun s h=>?_)
 obtain rfl:Sp.row (List.replicate 25 0) = s:=Option.some.inj (hs.symm.trans h)
 exact Row.blk (l:=List.replicate 25 0) (heap_alloc_new w _) (by decide)
theorem step_int (hI:Inv n w0 pre post L a w) (hp:pre.length = 11) (i:Nat) {x:Int} {o:Oper} (ho:ops2[i]? = some o) (hg:o.guard = none) (hd:o.dst = some (11 + i)) (hi:i < 40)
  (hrun:(execOp a.eval o).run Try.prog w = .ok (.value (.int .i64 x)) w) (hs:(sps n)[i]? = some (.int x)) :
  wpOp Try.prog ops2 Q i (Inv n w0 pre post (L.setIfInBounds i true)) a w:=by
 refine step_of hI hp ho hg hd hi hrun (Below.refl _ _) (fun s h=>?_)
 obtain rfl:Sp.int x = s:=Option.some.inj (hs.symm.trans h)
 rfl
theorem step_shp2 (hI:Inv n w0 pre post L a w) (hp:pre.length = 11) (i j j' : Nat) (hr:i ∈ Region.ready .any ops2 L) {K P:List Int} {o:Oper} (ho:ops2[i]? = some o) (hg:o.guard = none) (hd:o.dst = some (11 + i)) (hi:i < 40)
  (hop:o.op = .build 24 #[(0,.tmp (11 + j)),(1,.tmp (11 + j'))]) (hs:(sps n)[i]? = some (.shp (K,P))) (hj:Region.waitsFor .any ops2 i j = true) (hj' : Region.waitsFor .any ops2 i j' = true)
  (h1:(sps n)[j]? = some (.row K)) (h2:(sps n)[j']? = some (.row P)):wpOp Try.prog ops2 Q i (Inv n w0 pre post (L.setIfInBounds i true)) a w:=by
 have r1:Row w _ K:=hI.slot hp rfl (dep hr j hj) h1
 have r2:Row w _ P:=hI.slot hp rfl (dep hr j' hj') h2
 obtain ⟨A,e,c⟩:=id r1
 obtain ⟨A',e',c'⟩:=id r2
 refine step_of hI hp ho hg hd hi (run_build2 hop e e') (Below.refl _ _) (fun s h=>?_)
 obtain rfl:Sp.shp (K,P) = s:=Option.some.inj (hs.symm.trans h)
 exact ⟨_,_,rfl,⟨A,rfl,c⟩,⟨A',rfl,c'⟩⟩
set_option maxHeartbeats 8000000 in
set_option maxRecDepth 100000 in
theorem step (hI:Inv n w0 pre post L a w) (hp:pre.length = 11) (hn:pre.getD 0 undef = .int .i64 n) (n0:2 ≤ n) (n1:n ≤ 100) (i:Nat) (hr:i ∈ Region.ready .any ops2 L) :
  wpOp Try.prog ops2 Q i (Inv n w0 pre post (L.setIfInBounds i true)) a w:=by
 have hi:i < 40:=by
  obtain ⟨_,o,ho,_⟩:=mem_ready.1 hr
  have h1:=(Array.getElem?_eq_some_iff.1 ho).1
  have h2:ops2.size = 40:=by kernel_rfl
  omega
 have e0:a.eval (.tmp 0) = .int .i64 n:=(hI.pre (by omega)).trans hn
 obtain rfl|rfl|rfl|rfl|rfl|rfl|rfl|rfl|rfl|rfl|rfl|rfl|rfl|rfl|rfl|rfl|rfl|rfl|rfl|rfl|rfl|rfl|rfl|rfl|rfl|rfl|rfl|rfl|rfl|rfl|rfl|rfl|rfl|rfl|rfl|rfl|rfl|rfl|rfl|rfl:i = 0 ∨ i = 1 ∨ i = 2 ∨ i = 3 ∨ i = 4 ∨ i = 5 ∨ i = 6 ∨ i = 7 ∨ i = 8 ∨ i = 9 ∨ i = 10 ∨ i = 11 ∨ i = 12 ∨ i = 13 ∨ i = 14 ∨ i = 15 ∨ i = 16 ∨ i = 17 ∨ i = 18 ∨ i = 19 ∨ i = 20 ∨ i = 21 ∨ i = 22 ∨ i = 23 ∨ i = 24 ∨ i = 25 ∨ i = 26 ∨ i = 27 ∨ i = 28 ∨ i = 29 ∨ i = 30 ∨ i = 31 ∨ i = 32 ∨ i = 33 ∨ i = 34 ∨ i = 35 ∨ i = 36 ∨ i = 37 ∨ i = 38 ∨ i = 39:=by omega
 ·refine step_of hI hp (i:=0) rfl rfl rfl (by omega) (run_build0 rfl) (Below.refl _ _) (fun s h=>?_)
  obtain rfl:Sp.shp ([],[]) = s:=Option.some.inj h
  exact ⟨_,_,rfl,Row.nil w,Row.nil w⟩
 ·exact step_row hI hp 1 [1] (by decide) (by decide) rfl rfl rfl (by omega) rfl rfl rfl
 ·have r1:Row w _ [1]:=hI.slot hp (i:=1) rfl (dep hr 1 (by kernel_rfl)) rfl
  obtain ⟨A,e,c⟩:=id r1
  refine step_of hI hp (i:=2) rfl rfl rfl (by omega) (run_build1 rfl e) (Below.refl _ _) (fun s h=>?_)
  obtain rfl:Sp.shp ([1],[]) = s:=Option.some.inj h
  exact ⟨_,_,rfl,⟨A,rfl,c⟩,Row.nil w⟩
 ·exact step_row hI hp 3 [1] (by decide) (by decide) rfl rfl rfl (by omega) rfl rfl rfl
 ·exact step_row hI hp 4 [0] (by decide) (by decide) rfl rfl rfl (by omega) rfl rfl rfl
 ·exact step_shp2 hI hp 5 3 4 hr rfl rfl rfl (by omega) rfl rfl (by kernel_rfl) (by kernel_rfl) rfl rfl
 ·exact step_int hI hp 6 (x:=n) rfl rfl rfl (by omega) ((BigFrame.run_move _ rfl w).trans (by rw [e0])) rfl
 ·have e:a.eval (.tmp (11 + 6)) = .int .i64 n:=hI.slot hp (i:=6) rfl (dep hr 6 (by kernel_rfl)) rfl
  exact step_int hI hp 7 (x:=n + 3) rfl rfl rfl (by omega) (run_add n0 n1 rfl e) rfl
 ·have e:a.eval (.tmp (11 + 7)) = .int .i64 (n + 3):=hI.slot hp (i:=7) rfl (dep hr 7 (by kernel_rfl)) rfl
  exact step_row hI hp 8 [n + 3] (by simp) (by simp) rfl rfl rfl (by omega) rfl rfl (congrArg (fun v:Value=>[((0:Nat),v)]) e)
 ·exact step_row hI hp 9 [-1] (by decide) (by decide) rfl rfl rfl (by omega) rfl rfl rfl
 ·exact step_shp2 hI hp 10 8 9 hr rfl rfl rfl (by omega) rfl rfl (by kernel_rfl) (by kernel_rfl) rfl rfl
 ·exact step_row hI hp 11 [0] (by decide) (by decide) rfl rfl rfl (by omega) rfl rfl rfl
 ·exact step_row hI hp 12 [-1] (by decide) (by decide) rfl rfl rfl (by omega) rfl rfl rfl
 ·exact step_shp2 hI hp 13 11 12 hr rfl rfl rfl (by omega) rfl rfl (by kernel_rfl) (by kernel_rfl) rfl rfl
 ·exact step_row hI hp 14 [1,1] (by decide) (by decide) rfl rfl rfl (by omega) rfl rfl rfl
 ·exact step_row hI hp 15 [1,-1] (by decide) (by decide) rfl rfl rfl (by omega) rfl rfl rfl
 ·exact step_shp2 hI hp 16 14 15 hr rfl rfl rfl (by omega) rfl rfl (by kernel_rfl) (by kernel_rfl) rfl rfl
 ·exact step_row hI hp 17 [3] (by decide) (by decide) rfl rfl rfl (by omega) rfl rfl rfl
 ·exact step_row hI hp 18 [-1] (by decide) (by decide) rfl rfl rfl (by omega) rfl rfl rfl
 ·exact step_shp2 hI hp 19 17 18 hr rfl rfl rfl (by omega) rfl rfl (by kernel_rfl) (by kernel_rfl) rfl rfl
 ·exact step_row hI hp 20 [1,3] (by decide) (by decide) rfl rfl rfl (by omega) rfl rfl rfl
 ·exact step_row hI hp 21 [-1,0] (by decide) (by decide) rfl rfl rfl (by omega) rfl rfl rfl
 ·exact step_shp2 hI hp 22 20 21 hr rfl rfl rfl (by omega) rfl rfl (by kernel_rfl) (by kernel_rfl) rfl rfl
 ·exact step_row hI hp 23 [2,1,4] (by decide) (by decide) rfl rfl rfl (by omega) rfl rfl rfl
 ·exact step_row hI hp 24 [-1,0,0] (by decide) (by decide) rfl rfl rfl (by omega) rfl rfl rfl
 ·exact step_shp2 hI hp 25 23 24 hr rfl rfl rfl (by omega) rfl rfl (by kernel_rfl) (by kernel_rfl) rfl rfl
 ·exact step_row hI hp 26 [1,1,3,1] (by decide) (by decide) rfl rfl rfl (by omega) rfl rfl rfl
 ·exact step_row hI hp 27 [-1,0,0,2] (by decide) (by decide) rfl rfl rfl (by omega) rfl rfl rfl
 ·exact step_shp2 hI hp 28 26 27 hr rfl rfl rfl (by omega) rfl rfl (by kernel_rfl) (by kernel_rfl) rfl rfl
 ·exact step_row hI hp 29 [1,1] (by decide) (by decide) rfl rfl rfl (by omega) rfl rfl rfl
 ·exact step_int hI hp 30 (x:=n) rfl rfl rfl (by omega) ((BigFrame.run_move _ rfl w).trans (by rw [e0])) rfl
 ·have e:a.eval (.tmp (11 + 30)) = .int .i64 n:=hI.slot hp (i:=30) rfl (dep hr 30 (by kernel_rfl)) rfl
  exact step_int hI hp 31 (x:=-n) rfl rfl rfl (by omega) (run_neg n0 n1 rfl e) rfl
 ·have e:a.eval (.tmp (11 + 31)) = .int .i64 (-n):=hI.slot hp (i:=31) rfl (dep hr 31 (by kernel_rfl)) rfl
  exact step_row hI hp 32 [-1,-n] (by simp) (by simp) rfl rfl rfl (by omega) rfl rfl (congrArg (fun v:Value=>[((0:Nat),Value.int .i64 (-1)),((1:Nat),v)]) e)
 ·exact step_shp2 hI hp 33 29 32 hr rfl rfl rfl (by omega) rfl rfl (by kernel_rfl) (by kernel_rfl) rfl rfl
 ·exact step_make hI hp 34 rfl rfl rfl (by omega) rfl rfl
 ·exact step_make hI hp 35 rfl rfl rfl (by omega) rfl rfl
 ·exact step_shp2 hI hp 36 34 35 hr rfl rfl rfl (by omega) rfl rfl (by kernel_rfl) (by kernel_rfl) rfl rfl
 ·have hS:Shps w [a.eval (.tmp (11 + 0)),a.eval (.tmp (11 + 2)),a.eval (.tmp (11 + 5)),a.eval (.tmp (11 + 10)),a.eval (.tmp (11 + 13)),a.eval (.tmp (11 + 16)),a.eval (.tmp (11 + 19)),a.eval (.tmp (11 + 22)),a.eval (.tmp (11 + 25)),a.eval (.tmp (11 + 28)),a.eval (.tmp (11 + 33)),a.eval (.tmp (11 + 36))] (none12 n) :=
   ⟨hI.slot hp (i:=0) rfl (dep hr 0 (by kernel_rfl)) rfl,hI.slot hp (i:=2) rfl (dep hr 2 (by kernel_rfl)) rfl,hI.slot hp (i:=5) rfl (dep hr 5 (by kernel_rfl)) rfl,hI.slot hp (i:=10) rfl (dep hr 10 (by kernel_rfl)) rfl,hI.slot hp (i:=13) rfl (dep hr 13 (by kernel_rfl)) rfl,hI.slot hp (i:=16) rfl (dep hr 16 (by kernel_rfl)) rfl,hI.slot hp (i:=19) rfl (dep hr 19 (by kernel_rfl)) rfl,hI.slot hp (i:=22) rfl (dep hr 22 (by kernel_rfl)) rfl,hI.slot hp (i:=25) rfl (dep hr 25 (by kernel_rfl)) rfl,hI.slot hp (i:=28) rfl (dep hr 28 (by kernel_rfl)) rfl,hI.slot hp (i:=33) rfl (dep hr 33 (by kernel_rfl)) rfl,hI.slot hp (i:=36) rfl (dep hr 36 (by kernel_rfl)) rfl,trivial⟩
  refine step_of hI hp (i:=37) rfl rfl rfl (by omega) (run_all _ rfl (Shps.at hS).2.1 _ rfl rfl) (below_alloc (Below.refl _ _) _) (fun s h=>?_)
  obtain rfl:Sp.all (none12 n) = s:=Option.some.inj h
  exact all_of hS
 ·have e:All w _ (none12 n):=hI.slot hp (i:=37) rfl (dep hr 37 (by kernel_rfl)) rfl
  obtain ⟨g,cs,e,_,_⟩:=e
  exact step_int hI hp 38 (x:=12) rfl rfl rfl (by omega) (run_len rfl e) rfl
 ·exact step_int hI hp 39 (x:=0) rfl rfl rfl (by omega) (BigFrame.run_move (.const (.int .i64 0)) rfl w) rfl
end
end Go.Proofs.Ytnomeokicfpidaa.FM
namespace Go.Proofs.Ytnomeokicfpidaa.Q
open Go.RowKit Go.Proofs.YtnomeokicfpidaaW.PrintWords Go.Proofs.YtnomeokicfpidaaW.PrintLast Go.Proofs.YtnomeokicfpidaaW.PrintMore
attribute [local go_sem] max2_int min2_int max_two min_two max_three min_three max_four min_four
set_option linter.unusedVariables false
set_option linter.unusedSimpArgs false
def q12.f (a0:Int):Option (Int):=if 0 ≤ a0 then (if a0 ≤ 4294967295 then some ((Lib.bitLen a0.toNat:Nat):Int) else none) else none
theorem q12.calls (a0:Int) (r:Int) (w:World) (h:q12.f a0 = some r) :
  Calls Try.prog 43 #[.int .u32 a0] w fun e w'=>e = .returned (.int .i64 r) ∧ Drawn0 w w':=by
 unfold q12.f at h
 by_cases h0:0 ≤ a0
 ·rw [if_pos h0] at h
  by_cases h1:a0 ≤ 4294967295
  ·rw [if_pos h1] at h
   obtain rfl:=Option.some.inj h
   refine (Try.bits_Len32 a0 w h0 h1).mono ?_
   rintro e w' ⟨rfl,rfl⟩
   exact ⟨rfl,Drawn0.refl _⟩
  ·rw [if_neg h1] at h;exact absurd h (by simp)
 ·rw [if_neg h0] at h;exact absurd h (by simp)
end Go.Proofs.Ytnomeokicfpidaa.Q
