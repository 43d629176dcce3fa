-- merged and slimmed by slim.py (a program of this repo)
import Derived.Test.YtnomeokicfpidaaKEnterProper3
namespace Go.Proofs.Ytnomeokicfpidaa.Q
open Go.RowKit Go.Proofs.YtnomeokicfpidaaW.PrintWords Go.Proofs.YtnomeokicfpidaaW.PrintLast Go.Proofs.YtnomeokicfpidaaW.PrintMore
attribute [local go_sem] max2_int min2_int max_two min_two max_three min_three max_four min_four
set_option linter.unusedVariables false
set_option linter.unusedSimpArgs false
mutual
def q12.l0:Nat → List (List Int) → List Int → Int → List Int → List Int → Option (List Int)
 | 0,_,_,_,_,_=>none
 | k + 1,x1,x5,x6,x102000,x102001=>if x6 < (x102000.length:Int) then (q12.j1 k x1 x5 x6 (decide (x6 < (x1.length:Int))) x102000 x102001) else (q12.j1 k x1 x5 x6 false x102000 x102001)
def q12.j1:Nat → List (List Int) → List Int → Int → Bool → List Int → List Int → Option (List Int)
 | 0,_,_,_,_,_,_=>none
 | k + 1,x1,x5,x6,x20,x102000,x102001=>if x20 = true then (if 0 ≤ x6 then (if x6 < (x1.length:Int) then (if ((rd_L2 x1 x6).length:Int) > 0 then (if 0 < ((rd_L2 x1 x6).length:Int) then (q12.j2 k x1 x5 x6 0 ((Int.tmod (rd (rd_L2 x1 x6) 0) 3) != 0) x102000 x102001) else (none)) else (q12.j2 k x1 x5 x6 0 false x102000 x102001)) else (none)) else (none)) else (some x5)
def q12.j2:Nat → List (List Int) → List Int → Int → Int → Bool → List Int → List Int → Option (List Int)
 | 0,_,_,_,_,_,_,_=>none
 | k + 1,x1,x5,x6,x7,x38,x102000,x102001=>if x38 = true then (if 0 ≤ x6 then (if x6 < (x1.length:Int) then ((q7.f k x102000 x102001 (rd_L2 x1 x6)).bind fun t106=>(q12.l1 k x1 x5 x6 x7 t106 (x102000.length:Int) 0 x102000 x102001)) else (none)) else (none)) else (if x5.length < 35184372088832 then (q12.l0 k x1 (x5 ++ [x7]) (wrap64 (x6 + 1)) x102000 x102001) else (none))
def q12.l1:Nat → List (List Int) → List Int → Int → Int → Int → Int → Int → List Int → List Int → Option (List Int)
 | 0,_,_,_,_,_,_,_,_,_=>none
 | k + 1,x1,x5,x6,x7,x8,x47,x48,x102000,x102001=>if x48 < x47 then (if x48 = x6 then (q12.l1 k x1 x5 x6 x7 x8 x47 (wrap64 (x48 + 1)) x102000 x102001) else ((q1.f k x102000 x102001 x48 x6).bind fun t107=>(if t107 = true then (if 0 ≤ (IntKind.u64.wrap (x6)) then (if (Go.bits .and .u32 (shr .u32 x8 (IntKind.u64.wrap (x6))) 1) = 1 then (if 0 ≤ (IntKind.u64.wrap (x48)) then (q12.l1 k x1 x5 x6 (Go.bits .or .u32 x7 (Go.bits .and .u32 x8 (shl .u32 1 (IntKind.u64.wrap (x48))))) x8 x47 (wrap64 (x48 + 1)) x102000 x102001) else (none)) else (q12.l1 k x1 x5 x6 x7 x8 x47 (wrap64 (x48 + 1)) x102000 x102001)) else (none)) else (q12.l1 k x1 x5 x6 x7 x8 x47 (wrap64 (x48 + 1)) x102000 x102001)))) else (if x5.length < 35184372088832 then (q12.l0 k x1 (x5 ++ [x7]) (wrap64 (x6 + 1)) x102000 x102001) else (none))
end
def q12.f (k:Nat) (l0_0:List Int) (l0_1:List Int) (l1:List (List Int)):Option (List Int):=q12.l0 k l1 ([]:List Int) 0 l0_0 l0_1
set_option maxHeartbeats 8000000 in
set_option maxRecDepth 100000 in
theorem q12.calls (k:Nat) (A0_0:Option Addr) (c0_0:Nat) (l0_0:List Int) (A0_1:Option Addr) (c0_1:Nat) (l0_1:List Int) (A1:Option Addr) (c1:Nat) (l1:List (List Int)) (r:List Int) (w:World) (hr0_0:Kd.C (Kd.int .i64) w A0_0 l0_0.length l0_0) (hc0_0:l0_0.length ≤ c0_0) (hr0_1:Kd.C (Kd.int .i64) w A0_1 l0_1.length l0_1) (hc0_1:l0_1.length ≤ c0_1) (hr1:Kd.C (Kd.slice 3 (Kd.int .i64)) w A1 l1.length l1) (hc1:l1.length ≤ c1) (h:q12.f k l0_0 l0_1 l1 = some r) :
  Calls Try.prog 22 #[.agg #[.slice A0_0 l0_0.length c0_0,.slice A0_1 l0_1.length c0_1],.slice A1 l1.length c1] w fun e w'=>∃ v0_:Value,e = .returned (v0_) ∧ Kd.R (Kd.int .u32) 29 w' w.heap.size (fun _=>True) v0_ r ∧ Below w.heap.size w w':=by
 have hu25:=Try.underlying25
 have HR0_0:=Aside0.mk hr0_0
 have HC0_0:=Aside0.mk hc0_0
 clear hr0_0 hc0_0
 have HR0_1:=Aside0.mk hr0_1
 have HC0_1:=Aside0.mk hc0_1
 clear hr0_1 hc0_1
 have HR1:=Aside0.mk hr1
 have HC1:=Aside0.mk hc1
 clear hr1 hc1
 have HB:=zk (Below.refl w.heap.size w)
 have H:(q12.l0 k l1 ([]:List Int) 0 l0_0 l0_1) = some r:=h
 clear h
 have H':=Aside0.mk H
 clear H
 go_enter Try.func22,Try.ntmps22
 go_wp2_with (first|((with_reducible refine gate_dst (N:=2) rfl ?_);(try (refine gate_guard (by rfl) ?_;dsimp only));refine box_event ?hg (N:=2) ?hd (cs:=#[.slice A0_0 l0_0.length c0_0,.slice A0_1 l0_1.length c0_1]) (t:=25) ?hr ?_;(case hd=>rfl);(case hg=>rfl);(case hr=>first|(go_simp;done)|(go_simp;rfl));intro gb101 hg w3 hbox hb;have n0_:=zk (below_step (bq HB.out) hb);have n1_:=zk (hbox);have n2_:=zk ((by rw [hg];exact (below_size (bq HB.out)):w.heap.size ≤ gb101));have n3_:=zk ((by rw [hg];exact (below_size (bq HB.out)):w.heap.size ≤ gb101));clear HB;have HB:=n0_;have BK101:=n1_;have GW101:=n2_;have GE101:=n3_;clear n0_ n1_ n2_ n3_;clear hb hbox hg))
 go_loopg [5,6] k (fun kq v5 v6 w'=>∃ (x5_1:List Int) (x6_1:Int),v6 = .int .i64 x6_1 ∧ Aside0 (q12.l0 kq l1 x5_1 x6_1 l0_0 l0_1 = some r) ∧ Aside0 (kq ≤ k) ∧ Aside0 (Kd.R (Kd.int .u32) 29 w' w.heap.size (fun _=>True) v5 x5_1) ∧ Aside0 (w'.heap[gb101]? = some (.cells #[(.slice A0_0 l0_0.length c0_0),(.slice A0_1 l0_1.length c0_1)] 25 (0,0))) ∧ Aside0 (Below w.heap.size w w'))
 case atStart=>exact ⟨(([]:List Int)),(0),oE,H',⟨Nat.le_refl _⟩,⟨by first|exact Kd.R_nil _ _ _ _ _|exact Kd.N_nil _ _ _ _ _|exact Kd.V_nil _ _ _ _ _|exact Kd.Q_nil _ _ _ _ _|exact Kd.S_nil _ _ _ _ _⟩,⟨hq BK101.out⟩,⟨bg HB.out GE101 GE101⟩⟩
 case round =>
  clear H'
  try clear c1
  try clear c2
  try clear p2
  obtain ⟨x5_1,x6_1,rfl,HA,HK1,HO_5,BK101,HB⟩:=hrel
  cases gk with
  | zero=>exact absurd HA.out (by simp [q12.l0])
  | succ k1 =>
   have H:=HA.out
   clear HA
   simp only [q12.l0] at H
   have HC4:=Aside0.mk H
   clear H
   go_upto_region 3 with (fail)
   go_cut [20] (fun v20 wc=>∃ (kq:Nat) (x20_3:Bool),v20 = .bool x20_3 ∧ Aside0 (q12.j1 kq l1 x5_1 x6_1 x20_3 l0_0 l0_1 = some r) ∧ Aside0 (kq ≤ k1) ∧ Aside0 (Kd.R (Kd.int .u32) 29 wc w.heap.size (fun _=>True) u5 x5_1) ∧ Aside0 (wc.heap[gb101]? = some (.cells #[(.slice A0_0 l0_0.length c0_0),(.slice A0_1 l0_1.length c0_1)] 25 (0,0))) ∧ Aside0 (Below w.heap.size w wc))
   case first =>
    have H:=HC4.out
    clear HC4
    by_cases c5:x6_1 < (l0_0.length:Int)
    ·rw [if_pos c5] at H
     have c5b0:decide (x6_1 < (l0_0.length:Int)) = true:=decide_eq_true c5
     clear c5
     (first|rw [c5b0]|(simp only [i64_w,i32_w];rw [c5b0])|skip)
     have H':=Aside0.mk H
     clear H
     have hcz6_0:wr.cell? ⟨gb101,0,none⟩ = some (.slice A0_0 l0_0.length c0_0):=(blk_cell BK101.out 0).trans rfl
     have hcz6_1:wr.cell? ⟨gb101,1,none⟩ = some (.slice A0_1 l0_1.length c0_1):=(blk_cell BK101.out 1).trans rfl
     have hfz6_0:=blk_frozen BK101.out 0
     have hfz6_1:=blk_frozen BK101.out 1
     go_wp2
     go_meet
     case rel=>exact ⟨_,(decide (x6_1 < (l1.length:Int))),oE,H',⟨by have:=HK1.out;first|omega|exact Nat.le_refl _⟩,⟨rq HO_5.out⟩,⟨hq BK101.out⟩,⟨bg HB.out GE101 GE101⟩⟩
    ·rw [if_neg c5] at H
     have c5b0:decide (x6_1 < (l0_0.length:Int)) = false:=decide_eq_false c5
     clear c5
     (first|rw [c5b0]|(simp only [i64_w,i32_w];rw [c5b0])|skip)
     have H':=Aside0.mk H
     clear H
     have hcz7_0:wr.cell? ⟨gb101,0,none⟩ = some (.slice A0_0 l0_0.length c0_0):=(blk_cell BK101.out 0).trans rfl
     have hcz7_1:wr.cell? ⟨gb101,1,none⟩ = some (.slice A0_1 l0_1.length c0_1):=(blk_cell BK101.out 1).trans rfl
     have hfz7_0:=blk_frozen BK101.out 0
     have hfz7_1:=blk_frozen BK101.out 1
     go_wp2
     go_meet
     case rel=>exact ⟨_,(false),oE,H',⟨by have:=HK1.out;first|omega|exact Nat.le_refl _⟩,⟨rq HO_5.out⟩,⟨hq BK101.out⟩,⟨bg HB.out GE101 GE101⟩⟩
   case rest =>
    clear HC4
    try clear c1
    try clear c2
    try clear p2
    try clear c5
    try clear c5b0
    try clear hcz6_0
    try clear hcz6_1
    try clear hcz7_0
    try clear hcz7_1
    try clear hfz6_0
    try clear hfz6_1
    try clear hfz7_0
    try clear hfz7_1
    try clear p2
    obtain ⟨kq,x20_3,rfl,HA,HJ3,HO_5,BK101,HB⟩:=hcut
    cases kq with
    | zero=>exact absurd HA.out (by simp [q12.j1])
    | succ kj3 =>
     have H:=HA.out
     clear HA
     simp only [q12.j1] at H
     by_cases c8:x20_3 = true
     ·subst c8
      have H1:(if 0 ≤ x6_1 then (if x6_1 < (l1.length:Int) then (if ((rd_L2 l1 x6_1).length:Int) > 0 then (if 0 < ((rd_L2 l1 x6_1).length:Int) then (q12.j2 kj3 l1 x5_1 x6_1 0 ((Int.tmod (rd (rd_L2 l1 x6_1) 0) 3) != 0) l0_0 l0_1) else (none)) else (q12.j2 kj3 l1 x5_1 x6_1 0 false l0_0 l0_1)) else (none)) else (none)) = some r:=by rw [if_pos rfl] at H;exact H
      clear H
      have H:=H1
      clear H1
      have HC9:=Aside0.mk H
      clear H
      go_upto_region 6 with (fail)
      go_cut [38] (fun v38 wc=>∃ (kq:Nat) (x38_8:Bool),v38 = .bool x38_8 ∧ Aside0 (q12.j2 kq l1 x5_1 x6_1 0 x38_8 l0_0 l0_1 = some r) ∧ Aside0 (kq ≤ kj3) ∧ Aside0 (Kd.R (Kd.int .u32) 29 wc w.heap.size (fun _=>True) u5 x5_1) ∧ Aside0 (wc.heap[gb101]? = some (.cells #[(.slice A0_0 l0_0.length c0_0),(.slice A0_1 l0_1.length c0_1)] 25 (0,0))) ∧ Aside0 (Below w.heap.size w wc))
      case first =>
       have H:=HC9.out
       clear HC9
       by_cases c10:0 ≤ x6_1
       ·rw [if_pos c10] at H
        have c10b0:decide (0 ≤ x6_1) = true:=decide_eq_true c10
        clear c10
        (first|rw [c10b0]|(simp only [i64_w,i32_w];rw [c10b0])|skip)
        by_cases c11:x6_1 < (l1.length:Int)
        ·rw [if_pos c11] at H
         have c11b0:decide (x6_1 < (l1.length:Int)) = true:=decide_eq_true c11
         clear c11
         by_cases c12:((rd_L2 l1 x6_1).length:Int) > 0
         ·rw [if_pos c12] at H
          have c12b0:decide (0 < ((rd_L2 l1 x6_1).length:Int)) = true:=decide_eq_true c12
          have c12b1:decide (0 < (rd_L2 l1 x6_1).length) = true:=decide_eq_true (by omega)
          clear c12
          by_cases c13:0 < ((rd_L2 l1 x6_1).length:Int)
          ·rw [if_pos c13] at H
           have c13b0:decide (0 < ((rd_L2 l1 x6_1).length:Int)) = true:=decide_eq_true c13
           have c13b1:decide (0 < (rd_L2 l1 x6_1).length) = true:=decide_eq_true (by omega)
           clear c13
           have H':=Aside0.mk H
           clear H
           have p102:0 ≤ (x6_1:Int):=oA
           have q102:x6_1 < (l1.length:Int):=oA
           obtain ⟨ad102,A102_0,c102_0,e102,hx102_0,hl102_0,hi102_0⟩:=at_L2 HR1.out x6_1 p102 q102
           cases e102
           replace hx102_0:=(HB.out.cell (World.block_lt_of_cell? w _ hx102_0)).trans hx102_0
           have HR102_0:=Aside0.mk hi102_0
           have HC102_0:=Aside0.mk hl102_0
           clear hi102_0 hl102_0
           replace p102:=eq_true p102
           replace q102:=eq_true q102
           have p103:0 ≤ (x6_1:Int):=oA
           have q103:x6_1 < (l1.length:Int):=oA
           obtain ⟨ad103,A103_0,c103_0,e103,hx103_0,hl103_0,hi103_0⟩:=at_L2 HR1.out x6_1 p103 q103
           obtain rfl:ad102 = ad103:=(by injection e103)
           replace hx103_0:=(HB.out.cell (World.block_lt_of_cell? w _ hx103_0)).trans hx103_0
           have HR103_0:=Aside0.mk hi103_0
           have HC103_0:=Aside0.mk hl103_0
           clear hi103_0 hl103_0
           replace p103:=eq_true p103
           replace q103:=eq_true q103
           have ea_:=Option.some.inj (hx102_0.symm.trans hx103_0)
           injection ea_ with ea_ en_ ec_
           subst ea_
           subst ec_
           clear en_
           have p104:0 ≤ (0:Int):=(by omega)
           have q104:0 < ((rd_L2 l1 x6_1).length:Int):=oA
           obtain ⟨ad104,e104,hx104_0⟩:=Kd.at_int HR103_0.out 0 p104 q104
           cases e104
           have qi104:(0 < (rd_L2 l1 x6_1).length) = True:=eq_true (by omega)
           (try rw [show ((0:Int)).toNat = 0 from rfl] at hx104_0)
           (try rw [Addr.add_zero'] at hx104_0)
           replace hx104_0:=(HB.out.cell (World.block_lt_of_cell? w _ hx104_0)).trans hx104_0
           replace p104:=eq_true p104
           replace q104:=eq_true q104
           go_wp2
           go_meet
           case rel=>exact ⟨_,(((Int.tmod (rd (rd_L2 l1 x6_1) 0) 3) != 0)),oE,H',⟨by have:=HK1.out;have:=HJ3.out;first|omega|exact Nat.le_refl _⟩,⟨rq HO_5.out⟩,⟨hq BK101.out⟩,⟨bg HB.out GE101 GE101⟩⟩
          ·rw [if_neg c13] at H
           exact absurd H (by simp)
         ·rw [if_neg c12] at H
          have c12b0:decide (0 < ((rd_L2 l1 x6_1).length:Int)) = false:=decide_eq_false c12
          have c12b1:decide (0 < (rd_L2 l1 x6_1).length) = false:=decide_eq_false (by omega)
          clear c12
          have H':=Aside0.mk H
          clear H
          have p102:0 ≤ (x6_1:Int):=oA
          have q102:x6_1 < (l1.length:Int):=oA
          obtain ⟨ad102,A102_0,c102_0,e102,hx102_0,hl102_0,hi102_0⟩:=at_L2 HR1.out x6_1 p102 q102
          cases e102
          replace hx102_0:=(HB.out.cell (World.block_lt_of_cell? w _ hx102_0)).trans hx102_0
          have HR102_0:=Aside0.mk hi102_0
          have HC102_0:=Aside0.mk hl102_0
          clear hi102_0 hl102_0
          replace p102:=eq_true p102
          replace q102:=eq_true q102
          go_wp2
          go_meet
          case rel=>exact ⟨_,(false),oE,H',⟨by have:=HK1.out;have:=HJ3.out;first|omega|exact Nat.le_refl _⟩,⟨rq HO_5.out⟩,⟨hq BK101.out⟩,⟨bg HB.out GE101 GE101⟩⟩
        ·rw [if_neg c11] at H
         exact absurd H (by simp)
       ·rw [if_neg c10] at H
        exact absurd H (by simp)
      case rest =>
       clear HC9
       try clear c1
       try clear p1
       try clear q1
       try clear hx1
       try clear qi1
       try clear c2
       try clear p2
       try clear c5
       try clear c5b0
       try clear c8
       try clear c10
       try clear c10b0
       try clear p10
       try clear q10
       try clear hx10
       try clear qi10
       try clear c11
       try clear c11b0
       try clear c12
       try clear c12b0
       try clear c12b1
       try clear c13
       try clear c13b0
       try clear c13b1
       try clear hcz6_0
       try clear hcz6_1
       try clear hcz7_0
       try clear hcz7_1
       try clear hfz6_0
       try clear hfz6_1
       try clear hfz7_0
       try clear hfz7_1
       try clear hx102_0
       try clear hx103_0
       try clear hx104_0
       try clear p102
       try clear p103
       try clear p104
       try clear p2
       try clear q102
       try clear q103
       try clear q104
       obtain ⟨kq,x38_8,rfl,HA,HJ8,HO_5,BK101,HB⟩:=hcut
       cases kq with
       | zero=>exact absurd HA.out (by simp [q12.j2])
       | succ kj8 =>
        have H:=HA.out
        clear HA
        simp only [q12.j2] at H
        by_cases c14:x38_8 = true
        ·subst c14
         have H1:(if 0 ≤ x6_1 then (if x6_1 < (l1.length:Int) then ((q7.f kj8 l0_0 l0_1 (rd_L2 l1 x6_1)).bind fun t106=>(q12.l1 kj8 l1 x5_1 x6_1 0 t106 (l0_0.length:Int) 0 l0_0 l0_1)) else (none)) else (none)) = some r:=by rw [if_pos rfl] at H;exact H
         clear H
         have H:=H1
         clear H1
         by_cases c15:0 ≤ x6_1
         ·rw [if_pos c15] at H
          have c15b0:decide (0 ≤ x6_1) = true:=decide_eq_true c15
          clear c15
          by_cases c16:x6_1 < (l1.length:Int)
          ·rw [if_pos c16] at H
           have c16b0:decide (x6_1 < (l1.length:Int)) = true:=decide_eq_true c16
           clear c16
           replace H:=Option.bind_eq_some_iff.mp H
           obtain ⟨t106,A170,H⟩:=H
           replace H:(q12.l1 kj8 l1 x5_1 x6_1 0 t106 (l0_0.length:Int) 0 l0_0 l0_1) = some r:=H
           have A17:=Aside0.mk A170
           clear A170
           have H':=Aside0.mk H
           clear H
           try go_wp2
           have n0_:=zk (Kd.R_drew HO_5.out)
           have n1_:=zk (blk_drew BK101.out)
           have n2_:=zk (below_drew1 HB.out)
           clear HO_5
           clear BK101
           clear HB
           have HO_5:=n0_
           have BK101:=n1_
           have HB:=n2_
           clear n0_ n1_ n2_
           have p105:0 ≤ (x6_1:Int):=oA
           have q105:x6_1 < (l1.length:Int):=oA
           obtain ⟨ad105,A105_0,c105_0,e105,hx105_0,hl105_0,hi105_0⟩:=at_L2 HR1.out x6_1 p105 q105
           have hw105_0:=hx105_0
           cases e105
           replace hx105_0:=(HB.out.cell (World.block_lt_of_cell? w _ hx105_0)).trans hx105_0
           have HR105_0:=Aside0.mk hi105_0
           have HC105_0:=Aside0.mk hl105_0
           clear hi105_0 hl105_0
           replace p105:=eq_true p105
           replace q105:=eq_true q105
           refine start_ (n:=7) (S:=fun w'=>w'.cell? ⟨gb101,0,none⟩ = some (.slice A0_0 l0_0.length c0_0) ∧ w'.cell? ⟨gb101,1,none⟩ = some (.slice A0_1 l0_1.length c0_1) ∧ w'.cell? (ad105.add (x6_1).toNat) = some (.slice A105_0 (rd_L2 l1 x6_1).length c105_0)) (ds:=[]) #[false,false,false,false,false,false,false] (by kernel_rfl) rfl rfl ⟨(blk_cell BK101.out 0).trans rfl,(blk_cell BK101.out 1).trans rfl,((HB.out.cell (World.block_lt_of_cell? w _ hw105_0)).trans hw105_0)⟩ (fun hHeld=>?_)
           generalize wc.drew = w18 at HO_5 BK101 HB HR105_0 hx105_0 hHeld ⊢
           refine pure_ (i:=1) (N:=some 40) (v:=?_) (a':=?_) #[false,true,false,false,false,false,false] rfl rfl (by kernel_rfl) (fun _ _ _ h=>h) (Or.inl ⟨by rfl,?_⟩) ?_ ?_
           rotate_left
           ·intro w'
            go_simp
            with_reducible rfl
           rotate_left
           ·simp only [Act.put,List.setIfInBounds_toArray,List.set_cons_zero,List.set_cons_succ,i64_w,i32_w]
            rfl
           refine pure_ (i:=2) (N:=some 41) (v:=?_) (a':=?_) #[false,true,true,false,false,false,false] rfl rfl (by kernel_rfl) (fun _ _ _ h=>h) (Or.inl ⟨by rfl,?_⟩) ?_ ?_
           rotate_left
           ·intro w'
            go_simp
            with_reducible rfl
           rotate_left
           ·simp only [Act.put,List.setIfInBounds_toArray,List.set_cons_zero,List.set_cons_succ,i64_w,i32_w]
            rfl
           refine pure_ (i:=3) (N:=some 42) (v:=?_) (a':=?_) #[false,true,true,true,false,false,false] rfl rfl (by kernel_rfl) (fun _ _ _ h=>h) (Or.inl ⟨by rfl,?_⟩) ?_ ?_
           rotate_left
           ·intro w'
            go_simp
            with_reducible rfl
           rotate_left
           ·simp only [Act.put,List.setIfInBounds_toArray,List.set_cons_zero,List.set_cons_succ,i64_w,i32_w]
            rfl
           refine take_ (i:=0) (N:=some 39) (v:=?_) (a':=?_) #[true,true,true,true,false,false,false] rfl rfl (by kernel_rfl) (fun _ _ _ h=>h) (Or.inl ⟨by rfl,?_⟩) hHeld ?_ ?_
           rotate_left
           ·rintro w' ⟨s0,s1,s2⟩
            go_simp
            with_reducible rfl
           rotate_left
           ·simp only [Act.put,List.setIfInBounds_toArray,List.set_cons_zero,List.set_cons_succ,i64_w,i32_w]
            rfl
           refine take_ (i:=4) (N:=some 43) (v:=?_) (a':=?_) #[true,true,true,true,true,false,false] rfl rfl (by kernel_rfl) (fun _ _ _ h=>h) (Or.inl ⟨by rfl,?_⟩) hHeld ?_ ?_
           rotate_left
           ·rintro w' ⟨s0,s1,s2⟩
            go_simp
            with_reducible rfl
           rotate_left
           ·simp only [Act.put,List.setIfInBounds_toArray,List.set_cons_zero,List.set_cons_succ,i64_w,i32_w]
            rfl
           refine one_ (i:=5) (N:=some 44) #[true,true,true,true,true,true,false] rfl rfl (by kernel_rfl) (by decide) (fun K hK=>?_)
           refine goes_ Try.func18 (by kernel_rfl) rfl #[.agg #[.slice A0_0 l0_0.length c0_0,.slice A0_1 l0_1.length c0_1],.slice A105_0 (rd_L2 l1 x6_1).length c105_0] (by rfl) rfl rfl oF ?_
           with_reducible refine (q7.calls kj8 _ _ l0_0 _ _ l0_1 _ _ (rd_L2 l1 x6_1) t106 _ ?side1 ?side2 ?side3 ?side4 ?side5 ?side6 A17.out).mono ?_
           (case side1=>exact cq (Kd.C_below HR0_0.out HB.out))
           (case side2=>exact HC0_0.out)
           (case side3=>exact cq (Kd.C_below HR0_1.out HB.out))
           (case side4=>exact HC0_1.out)
           (case side5=>exact cq (Kd.C_below HR105_0.out HB.out))
           (case side6=>exact HC105_0.out)
           rintro e w19 ⟨rfl,hb⟩
           refine ⟨_,rfl,?_⟩
           have n0_:=zk (Kd.R_below (rq HO_5.out) hb)
           have n1_:=zk (blk_below (g:=gb101) (o:=.cells #[.slice A0_0 l0_0.length c0_0,.slice A0_1 l0_1.length c0_1] 25 (0,0)) (hq BK101.out) hb)
           have n2_:=zk (below_step (bg HB.out GE101 GE101) hb)
           clear HO_5
           clear BK101
           clear HB
           have HO_5:=n0_
           have BK101:=n1_
           have HB:=n2_
           clear n0_ n1_ n2_
           (try clear hb)
           (try clear hb2)
           (try clear hk)
           (try clear hi)
           refine hK.out _ _ ⟨(blk_cell BK101.out 0).trans rfl,(blk_cell BK101.out 1).trans rfl,((HB.out.cell (World.block_lt_of_cell? w _ hw105_0)).trans hw105_0)⟩ (fun hHeld=>?_)
           clear hK K
           refine norm_ (a':=?_) ?_ ?_
           rotate_left
           ·show Act.put _ (some 44) _ = _
            simp only [Act.put,List.setIfInBounds_toArray,List.set_cons_zero,List.set_cons_succ,i64_w,i32_w]
            rfl
           refine pure_ (i:=6) (N:=some 8) (v:=?_) (a':=?_) #[true,true,true,true,true,true,true] rfl rfl (by kernel_rfl) (fun _ _ _ h=>h) (Or.inl ⟨by rfl,?_⟩) ?_ ?_
           rotate_left
           ·intro w'
            go_simp
            with_reducible rfl
           rotate_left
           ·simp only [Act.put,List.setIfInBounds_toArray,List.set_cons_zero,List.set_cons_succ,i64_w,i32_w]
            rfl
           refine done_ (by kernel_rfl) ?_
           have hcz20_0:w19.cell? ⟨gb101,0,none⟩ = some (.slice A0_0 l0_0.length c0_0):=(blk_cell BK101.out 0).trans rfl
           have hcz20_1:w19.cell? ⟨gb101,1,none⟩ = some (.slice A0_1 l0_1.length c0_1):=(blk_cell BK101.out 1).trans rfl
           have hfz20_0:=blk_frozen BK101.out 0
           have hfz20_1:=blk_frozen BK101.out 1
           try go_wp2
           go_loopg [7,48] kj8 (fun kq v7 v48 w'=>∃ (x7_4:Int) (x48_4:Int),v7 = .int .u32 x7_4 ∧ v48 = .int .i64 x48_4 ∧ Aside0 (q12.l1 kq l1 x5_1 x6_1 x7_4 t106 (l0_0.length:Int) x48_4 l0_0 l0_1 = some r) ∧ Aside0 (kq ≤ kj8) ∧ Aside0 (Kd.R (Kd.int .u32) 29 w' w.heap.size (fun _=>True) u5 x5_1) ∧ Aside0 (w'.heap[gb101]? = some (.cells #[(.slice A0_0 l0_0.length c0_0),(.slice A0_1 l0_1.length c0_1)] 25 (0,0))) ∧ Aside0 (Below w.heap.size w w'))
           case atStart=>exact ⟨(0),(0),oE,oE,H',⟨Nat.le_refl _⟩,⟨rq HO_5.out⟩,⟨hq BK101.out⟩,⟨bg HB.out GE101 GE101⟩⟩
           case round =>
            clear H'
            try clear c1
            try clear p1
            try clear q1
            try clear hx1
            try clear qi1
            try clear c2
            try clear p2
            try clear c5
            try clear c5b0
            try clear c8
            try clear c10
            try clear c10b0
            try clear p10
            try clear q10
            try clear hx10
            try clear qi10
            try clear c11
            try clear c11b0
            try clear c12
            try clear c12b0
            try clear c12b1
            try clear c13
            try clear c13b0
            try clear c13b1
            try clear c14
            try clear c15
            try clear c15b0
            try clear c16
            try clear c16b0
            try clear c18
            try clear hcz20_0
            try clear hcz20_1
            try clear hcz6_0
            try clear hcz6_1
            try clear hcz7_0
            try clear hcz7_1
            try clear hfz20_0
            try clear hfz20_1
            try clear hfz6_0
            try clear hfz6_1
            try clear hfz7_0
            try clear hfz7_1
            try clear hx102_0
            try clear hx103_0
            try clear hx104_0
            try clear hx105_0
            try clear p1
            try clear p10
            try clear p102
            try clear p103
            try clear p104
            try clear p105
            try clear p2
            try clear q1
            try clear q10
            try clear q102
            try clear q103
            try clear q104
            try clear q105
            obtain ⟨x7_4,x48_4,rfl,rfl,HA,HK4,HO_5,BK101,HB⟩:=hrel
            cases gk with
            | zero=>exact absurd HA.out (by simp [q12.l1])
            | succ k4 =>
             have H:=HA.out
             clear HA
             simp only [q12.l1] at H
             by_cases c21:x48_4 < (l0_0.length:Int)
             ·rw [if_pos c21] at H
              have c21b0:decide (x48_4 < (l0_0.length:Int)) = true:=decide_eq_true c21
              clear c21
              by_cases c22:x48_4 = x6_1
              ·rw [if_pos c22] at H
               have c22b0:(x48_4 == x6_1) = true:=beq_iff_eq.mpr c22
               have c22b1:(x48_4 != x6_1) = false:=bne_eq_false_iff_eq.mpr c22
               clear c22
               have H':=Aside0.mk H
               clear H
               go_wp2
               go_roundg k4
               case measure=>have:=HK1.out;have:=HJ3.out;have:=HJ8.out;have:=HK4.out;omega
               case rel=>exact ⟨(x7_4),(wrap64 (x48_4 + 1)),oE,oE,H',⟨by have:=HK1.out;have:=HJ3.out;have:=HJ8.out;have:=HK4.out;omega⟩,⟨rq HO_5.out⟩,⟨hq BK101.out⟩,⟨bg HB.out GE101 GE101⟩⟩
              ·rw [if_neg c22] at H
               have c22b0:(x48_4 == x6_1) = false:=beq_eq_false_iff_ne.mpr c22
               have c22b1:(x48_4 != x6_1) = true:=bne_iff_ne.mpr c22
               replace H:=Option.bind_eq_some_iff.mp H
               obtain ⟨t107,A230,H⟩:=H
               replace H:(if t107 = true then (if 0 ≤ (IntKind.u64.wrap (x6_1)) then (if (Go.bits .and .u32 (shr .u32 t106 (IntKind.u64.wrap (x6_1))) 1) = 1 then (if 0 ≤ (IntKind.u64.wrap (x48_4)) then (q12.l1 k4 l1 x5_1 x6_1 (Go.bits .or .u32 x7_4 (Go.bits .and .u32 t106 (shl .u32 1 (IntKind.u64.wrap (x48_4))))) t106 (l0_0.length:Int) (wrap64 (x48_4 + 1)) l0_0 l0_1) else (none)) else (q12.l1 k4 l1 x5_1 x6_1 x7_4 t106 (l0_0.length:Int) (wrap64 (x48_4 + 1)) l0_0 l0_1)) else (none)) else (q12.l1 k4 l1 x5_1 x6_1 x7_4 t106 (l0_0.length:Int) (wrap64 (x48_4 + 1)) l0_0 l0_1)) = some r:=H
               have A23:=Aside0.mk A230
               clear A230
               by_cases c24:t107 = true
               ·subst c24
                have H1:(if 0 ≤ (IntKind.u64.wrap (x6_1)) then (if (Go.bits .and .u32 (shr .u32 t106 (IntKind.u64.wrap (x6_1))) 1) = 1 then (if 0 ≤ (IntKind.u64.wrap (x48_4)) then (q12.l1 k4 l1 x5_1 x6_1 (Go.bits .or .u32 x7_4 (Go.bits .and .u32 t106 (shl .u32 1 (IntKind.u64.wrap (x48_4))))) t106 (l0_0.length:Int) (wrap64 (x48_4 + 1)) l0_0 l0_1) else (none)) else (q12.l1 k4 l1 x5_1 x6_1 x7_4 t106 (l0_0.length:Int) (wrap64 (x48_4 + 1)) l0_0 l0_1)) else (none)) = some r:=by rw [if_pos rfl] at H;exact H
                clear H
                have H:=H1
                clear H1
                obtain ⟨ji25,hji25⟩:∃ j_:Int,(IntKind.u64.wrap (x6_1)) = j_:=⟨_,rfl⟩
                replace H:(if 0 ≤ (ji25) then (if (Go.bits .and .u32 (shr .u32 t106 (ji25)) 1) = 1 then (if 0 ≤ (IntKind.u64.wrap (x48_4)) then (q12.l1 k4 l1 x5_1 x6_1 (Go.bits .or .u32 x7_4 (Go.bits .and .u32 t106 (shl .u32 1 (IntKind.u64.wrap (x48_4))))) t106 (l0_0.length:Int) (wrap64 (x48_4 + 1)) l0_0 l0_1) else (none)) else (q12.l1 k4 l1 x5_1 x6_1 x7_4 t106 (l0_0.length:Int) (wrap64 (x48_4 + 1)) l0_0 l0_1)) else (none)) = some r:=by first|(rw [hji25] at H;exact H)|(simp only [hji25] at H ⊢;exact H)
                (try rw [hji25] at A23)
                by_cases c26:0 ≤ (ji25)
                ·rw [if_pos c26] at H
                 have c26b0:=eq_true c26
                 have c26b1:decide (0 ≤ (ji25)) = true:=decide_eq_true c26
                 clear c26
                 obtain ⟨ji27,hji27⟩:∃ j_:Int,(shr .u32 t106 (ji25)) = j_:=⟨_,rfl⟩
                 replace H:(if (Go.bits .and .u32 (ji27) 1) = 1 then (if 0 ≤ (IntKind.u64.wrap (x48_4)) then (q12.l1 k4 l1 x5_1 x6_1 (Go.bits .or .u32 x7_4 (Go.bits .and .u32 t106 (shl .u32 1 (IntKind.u64.wrap (x48_4))))) t106 (l0_0.length:Int) (wrap64 (x48_4 + 1)) l0_0 l0_1) else (none)) else (q12.l1 k4 l1 x5_1 x6_1 x7_4 t106 (l0_0.length:Int) (wrap64 (x48_4 + 1)) l0_0 l0_1)) = some r:=by first|(rw [hji27] at H;exact H)|(simp only [hji27] at H ⊢;exact H)
                 (try rw [hji27] at A23)
                 have hji27_:(t106 / 2 ^ min (ji25).toNat 32) = ji27:=hji27
                 have hji27z:(ji25) ≤ 32 → (t106 / 2 ^ (ji25).toNat) = ji27:=shr_small hji27
                 by_cases c28:(Go.bits .and .u32 (ji27) 1) = 1
                 ·rw [if_pos c28] at H
                  have c28b0:((Go.bits .and .u32 (ji27) 1) == 1) = true:=beq_iff_eq.mpr c28
                  have c28b1:((Go.bits .and .u32 (ji27) 1) != 1) = false:=bne_eq_false_iff_eq.mpr c28
                  clear c28
                  obtain ⟨ji29,hji29⟩:∃ j_:Int,(IntKind.u64.wrap (x48_4)) = j_:=⟨_,rfl⟩
                  replace H:(if 0 ≤ (ji29) then (q12.l1 k4 l1 x5_1 x6_1 (Go.bits .or .u32 x7_4 (Go.bits .and .u32 t106 (shl .u32 1 (ji29)))) t106 (l0_0.length:Int) (wrap64 (x48_4 + 1)) l0_0 l0_1) else (none)) = some r:=by first|(rw [hji29] at H;exact H)|(simp only [hji29] at H ⊢;exact H)
                  (try rw [hji29] at A23)
                  by_cases c30:0 ≤ (ji29)
                  ·rw [if_pos c30] at H
                   have c30b0:=eq_true c30
                   have c30b1:decide (0 ≤ (ji29)) = true:=decide_eq_true c30
                   clear c30
                   obtain ⟨ji31,hji31⟩:∃ j_:Int,(shl .u32 1 (ji29)) = j_:=⟨_,rfl⟩
                   replace H:(q12.l1 k4 l1 x5_1 x6_1 (Go.bits .or .u32 x7_4 (Go.bits .and .u32 t106 (ji31))) t106 (l0_0.length:Int) (wrap64 (x48_4 + 1)) l0_0 l0_1) = some r:=by first|(rw [hji31] at H;exact H)|(simp only [hji31] at H ⊢;exact H)
                   (try rw [hji31] at A23)
                   have hji31_:(IntKind.u32.wrap (1 * 2 ^ min (ji29).toNat 32)) = ji31:=hji31
                   have hji31z:(ji29) ≤ 32 → (IntKind.u32.wrap (1 * 2 ^ (ji29).toNat)) = ji31:=shl_small hji31
                   have hji31u:(IntKind.u32.wrap (2 ^ min (ji29).toNat 32)) = ji31:=by have h_:=hji31_;rw [Int.one_mul] at h_;exact h_
                   have hji31v:(ji29) ≤ 32 → (IntKind.u32.wrap (2 ^ (ji29).toNat)) = ji31:=fun hle_=>by have h_:=hji31z hle_;rw [Int.one_mul] at h_;exact h_
                   have H':=Aside0.mk H
                   clear H
                   have hcz32_0:wr.cell? ⟨gb101,0,none⟩ = some (.slice A0_0 l0_0.length c0_0):=(blk_cell BK101.out 0).trans rfl
                   have hcz32_1:wr.cell? ⟨gb101,1,none⟩ = some (.slice A0_1 l0_1.length c0_1):=(blk_cell BK101.out 1).trans rfl
                   have hfz32_0:=blk_frozen BK101.out 0
                   have hfz32_1:=blk_frozen BK101.out 1
                   go_wp2_with (first|(go_at_call 48;(with_reducible refine (q1.calls k4 _ _ l0_0 _ _ l0_1 x48_4 x6_1 true _ ?side1 ?side2 ?side3 ?side4 A23.out).mono ?_);(case side1=>exact cq (Kd.C_below HR0_0.out HB.out));(case side2=>exact HC0_0.out);(case side3=>exact cq (Kd.C_below HR0_1.out HB.out));(case side4=>exact HC0_1.out);rintro e w33 ⟨rfl,hb⟩;have n0_:=zk (Kd.R_below (rq HO_5.out) hb);have n1_:=zk (blk_below (g:=gb101) (o:=.cells #[.slice A0_0 l0_0.length c0_0,.slice A0_1 l0_1.length c0_1] 25 (0,0)) (hq BK101.out) hb);have n2_:=zk (below_step (bg HB.out GE101 GE101) hb);clear HO_5;clear BK101;clear HB;have HO_5:=n0_;have BK101:=n1_;have HB:=n2_;clear n0_ n1_ n2_;(try clear hb);(try clear hb2);(try clear hk);(try clear hi)))
                   go_roundg k4
                   case measure=>have:=HK1.out;have:=HJ3.out;have:=HJ8.out;have:=HK4.out;omega
                   case rel=>exact ⟨(Go.bits .or .u32 x7_4 (Go.bits .and .u32 t106 (ji31))),(wrap64 (x48_4 + 1)),(by first|rfl|(simp;done)|(simp only [← hji31] <;> (first|rfl|simp))|(simp [*];done)),oE,(by first|exact H'|exact ⟨by simp only [hji25,hji27,hji29,hji31];exact H'.out⟩),⟨by have:=HK1.out;have:=HJ3.out;have:=HJ8.out;have:=HK4.out;omega⟩,⟨rq HO_5.out⟩,⟨hq BK101.out⟩,⟨bg HB.out GE101 GE101⟩⟩
                  ·rw [if_neg c30] at H
                   exact absurd H (by simp)
                 ·rw [if_neg c28] at H
                  have c28b0:((Go.bits .and .u32 (ji27) 1) == 1) = false:=beq_eq_false_iff_ne.mpr c28
                  have c28b1:((Go.bits .and .u32 (ji27) 1) != 1) = true:=bne_iff_ne.mpr c28
                  have H':=Aside0.mk H
                  clear H
                  have hcz34_0:wr.cell? ⟨gb101,0,none⟩ = some (.slice A0_0 l0_0.length c0_0):=(blk_cell BK101.out 0).trans rfl
                  have hcz34_1:wr.cell? ⟨gb101,1,none⟩ = some (.slice A0_1 l0_1.length c0_1):=(blk_cell BK101.out 1).trans rfl
                  have hfz34_0:=blk_frozen BK101.out 0
                  have hfz34_1:=blk_frozen BK101.out 1
                  go_wp2_with (first|(go_at_call 48;(with_reducible refine (q1.calls k4 _ _ l0_0 _ _ l0_1 x48_4 x6_1 true _ ?side1 ?side2 ?side3 ?side4 A23.out).mono ?_);(case side1=>exact cq (Kd.C_below HR0_0.out HB.out));(case side2=>exact HC0_0.out);(case side3=>exact cq (Kd.C_below HR0_1.out HB.out));(case side4=>exact HC0_1.out);rintro e w35 ⟨rfl,hb⟩;have n0_:=zk (Kd.R_below (rq HO_5.out) hb);have n1_:=zk (blk_below (g:=gb101) (o:=.cells #[.slice A0_0 l0_0.length c0_0,.slice A0_1 l0_1.length c0_1] 25 (0,0)) (hq BK101.out) hb);have n2_:=zk (below_step (bg HB.out GE101 GE101) hb);clear HO_5;clear BK101;clear HB;have HO_5:=n0_;have BK101:=n1_;have HB:=n2_;clear n0_ n1_ n2_;(try clear hb);(try clear hb2);(try clear hk);(try clear hi)))
                  go_roundg k4
                  case measure=>have:=HK1.out;have:=HJ3.out;have:=HJ8.out;have:=HK4.out;omega
                  case rel=>exact ⟨(x7_4),(wrap64 (x48_4 + 1)),oE,oE,(by first|exact H'|exact ⟨by simp only [hji25,hji27];exact H'.out⟩),⟨by have:=HK1.out;have:=HJ3.out;have:=HJ8.out;have:=HK4.out;omega⟩,⟨rq HO_5.out⟩,⟨hq BK101.out⟩,⟨bg HB.out GE101 GE101⟩⟩
                ·rw [if_neg c26] at H
                 exact absurd H (by simp)
               ·replace c24:=Bool.eq_false_iff.mpr c24
                subst c24
                have H1:(q12.l1 k4 l1 x5_1 x6_1 x7_4 t106 (l0_0.length:Int) (wrap64 (x48_4 + 1)) l0_0 l0_1) = some r:=by rw [if_neg (show ¬ (false = true) by decide)] at H;exact H
                clear H
                have H:=H1
                clear H1
                have H':=Aside0.mk H
                clear H
                have hcz36_0:wr.cell? ⟨gb101,0,none⟩ = some (.slice A0_0 l0_0.length c0_0):=(blk_cell BK101.out 0).trans rfl
                have hcz36_1:wr.cell? ⟨gb101,1,none⟩ = some (.slice A0_1 l0_1.length c0_1):=(blk_cell BK101.out 1).trans rfl
                have hfz36_0:=blk_frozen BK101.out 0
                have hfz36_1:=blk_frozen BK101.out 1
                go_wp2_with (first|(go_at_call 48;(with_reducible refine (q1.calls k4 _ _ l0_0 _ _ l0_1 x48_4 x6_1 false _ ?side1 ?side2 ?side3 ?side4 A23.out).mono ?_);(case side1=>exact cq (Kd.C_below HR0_0.out HB.out));(case side2=>exact HC0_0.out);(case side3=>exact cq (Kd.C_below HR0_1.out HB.out));(case side4=>exact HC0_1.out);rintro e w37 ⟨rfl,hb⟩;have n0_:=zk (Kd.R_below (rq HO_5.out) hb);have n1_:=zk (blk_below (g:=gb101) (o:=.cells #[.slice A0_0 l0_0.length c0_0,.slice A0_1 l0_1.length c0_1] 25 (0,0)) (hq BK101.out) hb);have n2_:=zk (below_step (bg HB.out GE101 GE101) hb);clear HO_5;clear BK101;clear HB;have HO_5:=n0_;have BK101:=n1_;have HB:=n2_;clear n0_ n1_ n2_;(try clear hb);(try clear hb2);(try clear hk);(try clear hi)))
                go_roundg k4
                case measure=>have:=HK1.out;have:=HJ3.out;have:=HJ8.out;have:=HK4.out;omega
                case rel=>exact ⟨(x7_4),(wrap64 (x48_4 + 1)),oE,oE,H',⟨by have:=HK1.out;have:=HJ3.out;have:=HJ8.out;have:=HK4.out;omega⟩,⟨rq HO_5.out⟩,⟨hq BK101.out⟩,⟨bg HB.out GE101 GE101⟩⟩
             ·rw [if_neg c21] at H
              have c21b0:decide (x48_4 < (l0_0.length:Int)) = false:=decide_eq_false c21
              clear c21
              by_cases c38:x5_1.length < 35184372088832
              ·rw [if_pos c38] at H
               have LMc38:=Aside0.mk c38
               clear c38
               obtain ⟨y108,hy108⟩:∃ y_:List Int,y_ = (x5_1 ++ [x7_4]):=⟨_,rfl⟩
               replace H:(q12.l0 k4 l1 y108 (wrap64 (x6_1 + 1)) l0_0 l0_1) = some r:=by first|(rw [hy108];with_reducible exact H)|(have H2_:=(Option.bind_some _ _).symm.trans H;rw [hy108];with_reducible exact H2_)|(have H2_:=(Option.bind_some _ _).symm.trans H;with_reducible exact H2_)|with_reducible exact H|(rw [hy108];exact H)|exact H
               have Ny108:=Aside0.mk hy108
               clear hy108
               have H':=Aside0.mk H
               clear H
               go_wp2_with (first|((with_reducible refine gate_builtin (b:=.append) (xs:=#[.tmp 76,.tmp 78]) rfl ?_);(try (refine gate_guard (by rfl) ?_;dsimp only));at_builtin;refine Kd.R_append (Kd.int .u32) (w0:=w) w.heap.size rfl (.tmp 76) (.tmp 78) 42 29 (.int .u32 0) 4 rfl Try.underlying42 info29 rfl (by decide) (by omega) u5 x5_1 x7_4 [.int .u32 x7_4] (fun _=>True) (fun _=>False) rfl rfl ?aP (fun _ hk=>hk.elim) ?aF ?aO ?aB ?aS ?aL ?_;(case aP=>exact rfl);(case aB=>exact (bg HB.out GE101 GE101));(case aF=>exact (fun _ _=>trivial));(case aO=>exact (rq HO_5.out));(case aS=>exact (below_size (bg HB.out GE101 GE101)));(case aL=>have:=LMc38.out;omega);intro v109 w39 ho hb hg hat;rw [← Ny108.out] at ho;have n0_:=zk (blk_grown (g:=gb101) (o:=.cells #[.slice A0_0 l0_0.length c0_0,.slice A0_1 l0_1.length c0_1] 25 (0,0)) (hq BK101.out) hg (Kd.R_ne HO_5.out BK101.out (by decide)));have n1_:=zk (hb);have n2_:=zk (ho);clear BK101;clear HB;clear HO_5;have BK101:=n0_;have HB:=n1_;have HO110:=n2_;clear n0_ n1_ n2_;clear ho hb hg hat))
               go_roundg k4
               case measure=>have:=HK1.out;have:=HJ3.out;have:=HJ8.out;have:=HK4.out;omega
               case rel=>exact ⟨(y108),(wrap64 (x6_1 + 1)),oE,H',⟨by have:=HK1.out;have:=HJ3.out;have:=HJ8.out;have:=HK4.out;omega⟩,⟨rq HO110.out⟩,⟨hq BK101.out⟩,⟨bg HB.out GE101 GE101⟩⟩
              ·rw [if_neg c38] at H
               exact absurd H (by simp)
          ·rw [if_neg c16] at H
           exact absurd H (by simp)
         ·rw [if_neg c15] at H
          exact absurd H (by simp)
        ·replace c14:=Bool.eq_false_iff.mpr c14
         subst c14
         have H1:(if x5_1.length < 35184372088832 then (q12.l0 kj8 l1 (x5_1 ++ [0]) (wrap64 (x6_1 + 1)) l0_0 l0_1) else (none)) = some r:=by rw [if_neg (show ¬ (false = true) by decide)] at H;exact H
         clear H
         have H:=H1
         clear H1
         by_cases c40:x5_1.length < 35184372088832
         ·rw [if_pos c40] at H
          have LMc40:=Aside0.mk c40
          clear c40
          obtain ⟨y111,hy111⟩:∃ y_:List Int,y_ = (x5_1 ++ [0]):=⟨_,rfl⟩
          replace H:(q12.l0 kj8 l1 y111 (wrap64 (x6_1 + 1)) l0_0 l0_1) = some r:=by first|(rw [hy111];with_reducible exact H)|(have H2_:=(Option.bind_some _ _).symm.trans H;rw [hy111];with_reducible exact H2_)|(have H2_:=(Option.bind_some _ _).symm.trans H;with_reducible exact H2_)|with_reducible exact H|(rw [hy111];exact H)|exact H
          have Ny111:=Aside0.mk hy111
          clear hy111
          have H':=Aside0.mk H
          clear H
          go_wp2_with (first|((with_reducible refine gate_builtin (b:=.append) (xs:=#[.tmp 76,.tmp 78]) rfl ?_);(try (refine gate_guard (by rfl) ?_;dsimp only));at_builtin;refine Kd.R_append (Kd.int .u32) (w0:=w) w.heap.size rfl (.tmp 76) (.tmp 78) 42 29 (.int .u32 0) 4 rfl Try.underlying42 info29 rfl (by decide) (by omega) u5 x5_1 0 [.int .u32 0] (fun _=>True) (fun _=>False) rfl rfl ?aP (fun _ hk=>hk.elim) ?aF ?aO ?aB ?aS ?aL ?_;(case aP=>exact rfl);(case aB=>exact (bg HB.out GE101 GE101));(case aF=>exact (fun _ _=>trivial));(case aO=>exact (rq HO_5.out));(case aS=>exact (below_size (bg HB.out GE101 GE101)));(case aL=>have:=LMc40.out;omega);intro v112 w41 ho hb hg hat;rw [← Ny111.out] at ho;have n0_:=zk (blk_grown (g:=gb101) (o:=.cells #[.slice A0_0 l0_0.length c0_0,.slice A0_1 l0_1.length c0_1] 25 (0,0)) (hq BK101.out) hg (Kd.R_ne HO_5.out BK101.out (by decide)));have n1_:=zk (hb);have n2_:=zk (ho);clear BK101;clear HB;clear HO_5;have BK101:=n0_;have HB:=n1_;have HO113:=n2_;clear n0_ n1_ n2_;clear ho hb hg hat))
          go_roundg kj8
          case measure=>have:=HK1.out;have:=HJ3.out;have:=HJ8.out;omega
          case rel=>exact ⟨(y111),(wrap64 (x6_1 + 1)),oE,H',⟨by have:=HK1.out;have:=HJ3.out;have:=HJ8.out;omega⟩,⟨rq HO113.out⟩,⟨hq BK101.out⟩,⟨bg HB.out GE101 GE101⟩⟩
         ·rw [if_neg c40] at H
          exact absurd H (by simp)
     ·replace c8:=Bool.eq_false_iff.mpr c8
      subst c8
      have H1:(some x5_1) = some r:=by rw [if_neg (show ¬ (false = true) by decide)] at H;exact H
      clear H
      have H:=H1
      clear H1
      obtain rfl:=Option.some.inj H
      go_wp2
      go_ret
      exact ⟨_,by first|rfl|(simp [errW_none,errW_some] <;> rfl)|(simp [*,errW_none,errW_some] <;> rfl),rq HO_5.out,bg HB.out GE101 GE101⟩
def q16.f (l0_0:List Int) (l0_1:List Int) (a1:Int):Option (Bool):=if a1 ≥ 0 then (some (decide (a1 < (l0_0.length:Int)))) else (some false)
set_option maxHeartbeats 8000000 in
set_option maxRecDepth 100000 in
theorem q16.calls (A0_0:Option Addr) (c0_0:Nat) (l0_0:List Int) (A0_1:Option Addr) (c0_1:Nat) (l0_1:List Int) (a1:Int) (r:Bool) (w:World) (hr0_0:Kd.C (Kd.int .i64) w A0_0 l0_0.length l0_0) (hc0_0:l0_0.length ≤ c0_0) (hr0_1:Kd.C (Kd.int .i64) w A0_1 l0_1.length l0_1) (hc0_1:l0_1.length ≤ c0_1) (h:q16.f l0_0 l0_1 a1 = some r) :
  Calls Try.prog 51 #[.agg #[.slice A0_0 l0_0.length c0_0,.slice A0_1 l0_1.length c0_1],.int .i64 a1] w fun e w'=>e = .returned (.bool r) ∧ Below w.heap.size w w':=by
 have hu24:=Try.underlying24
 have HR0_0:=Aside0.mk hr0_0
 have HC0_0:=Aside0.mk hc0_0
 clear hr0_0 hc0_0
 have HR0_1:=Aside0.mk hr0_1
 have HC0_1:=Aside0.mk hc0_1
 clear hr0_1 hc0_1
 have HB:=zk (Below.refl w.heap.size w)
 have H:(if a1 ≥ 0 then (some (decide (a1 < (l0_0.length:Int)))) else (some false)) = some r:=h
 clear h
 by_cases c3:a1 ≥ 0
 ·rw [if_pos c3] at H
  have c3b0:decide (0 ≤ a1) = true:=decide_eq_true c3
  clear c3
  obtain rfl:=Option.some.inj H
  go_enter Try.func51,Try.ntmps51
  go_wp2_with (first|((with_reducible refine gate_dst (N:=2) rfl ?_);(try (refine gate_guard (by rfl) ?_;dsimp only));refine box_event ?hg (N:=2) ?hd (cs:=#[.slice A0_0 l0_0.length c0_0,.slice A0_1 l0_1.length c0_1]) (t:=24) ?hr ?_;(case hd=>rfl);(case hg=>rfl);(case hr=>first|(go_simp;done)|(go_simp;rfl));intro gb101 hg w4 hbox hb;have n0_:=zk (below_step (bq HB.out) hb);have n1_:=zk (hbox);have n2_:=zk ((by rw [hg];exact (below_size (bq HB.out)):w.heap.size ≤ gb101));have n3_:=zk ((by rw [hg];exact (below_size (bq HB.out)):w.heap.size ≤ gb101));clear HB;have HB:=n0_;have BK101:=n1_;have GW101:=n2_;have GE101:=n3_;clear n0_ n1_ n2_ n3_;clear hb hbox hg;have hcz5_0:w4.cell? ⟨gb101,0,none⟩ = some (.slice A0_0 l0_0.length c0_0):=(blk_cell BK101.out 0).trans rfl;have hcz5_1:w4.cell? ⟨gb101,1,none⟩ = some (.slice A0_1 l0_1.length c0_1):=(blk_cell BK101.out 1).trans rfl;have hfz5_0:=blk_frozen BK101.out 0;have hfz5_1:=blk_frozen BK101.out 1))
  go_ret
  exact ⟨by first|rfl|(simp [errW_none,errW_some] <;> rfl)|(simp [*,errW_none,errW_some] <;> rfl),bg HB.out GE101 GE101⟩
 ·rw [if_neg c3] at H
  have c3b0:decide (0 ≤ a1) = false:=decide_eq_false c3
  clear c3
  obtain rfl:=Option.some.inj H
  go_enter Try.func51,Try.ntmps51
  go_wp2_with (first|((with_reducible refine gate_dst (N:=2) rfl ?_);(try (refine gate_guard (by rfl) ?_;dsimp only));refine box_event ?hg (N:=2) ?hd (cs:=#[.slice A0_0 l0_0.length c0_0,.slice A0_1 l0_1.length c0_1]) (t:=24) ?hr ?_;(case hd=>rfl);(case hg=>rfl);(case hr=>first|(go_simp;done)|(go_simp;rfl));intro gb101 hg w6 hbox hb;have n0_:=zk (below_step (bq HB.out) hb);have n1_:=zk (hbox);have n2_:=zk ((by rw [hg];exact (below_size (bq HB.out)):w.heap.size ≤ gb101));have n3_:=zk ((by rw [hg];exact (below_size (bq HB.out)):w.heap.size ≤ gb101));clear HB;have HB:=n0_;have BK101:=n1_;have GW101:=n2_;have GE101:=n3_;clear n0_ n1_ n2_ n3_;clear hb hbox hg))
  go_ret
  exact ⟨by first|rfl|(simp [errW_none,errW_some] <;> rfl)|(simp [*,errW_none,errW_some] <;> rfl),bg HB.out GE101 GE101⟩
mutual
def q27.j0:Nat → Int → Int → Bool → List Int → List Int → Option (Bool)
 | 0,_,_,_,_,_=>none
 | k + 1,x1,x2,x20,x102000,x102001=>if x20 = true then (some false) else (q27.l0 k x1 x2 x102000 x102001)
def q27.l0:Nat → Int → Int → List Int → List Int → Option (Bool)
 | 0,_,_,_,_=>none
 | k + 1,x1,x2,x102000,x102001=>if x1 > x2 then (if 0 ≤ x1 then (if x1 < (x102001.length:Int) then (q27.l0 k (rd x102001 x1) x2 x102000 x102001) else (none)) else (none)) else (some (x1 == x2))
end
def q27.f (k:Nat) (l0_0:List Int) (l0_1:List Int) (a1:Int) (a2:Int):Option (Bool):=(q16.f l0_0 l0_1 a1).bind fun t102=>(if t102 = true then (if a2 = (-1) then (q27.j0 k a1 a2 false l0_0 l0_1) else ((q16.f l0_0 l0_1 a2).bind fun t103=>(q27.j0 k a1 a2 (!t103) l0_0 l0_1))) else (q27.j0 k a1 a2 true l0_0 l0_1))
set_option maxHeartbeats 8000000 in
set_option maxRecDepth 100000 in
theorem q27.calls (k:Nat) (A0_0:Option Addr) (c0_0:Nat) (l0_0:List Int) (A0_1:Option Addr) (c0_1:Nat) (l0_1:List Int) (a1:Int) (a2:Int) (r:Bool) (w:World) (hr0_0:Kd.C (Kd.int .i64) w A0_0 l0_0.length l0_0) (hc0_0:l0_0.length ≤ c0_0) (hr0_1:Kd.C (Kd.int .i64) w A0_1 l0_1.length l0_1) (hc0_1:l0_1.length ≤ c0_1) (h:q27.f k l0_0 l0_1 a1 a2 = some r) :
  Calls Try.prog 27 #[.agg #[.slice A0_0 l0_0.length c0_0,.slice A0_1 l0_1.length c0_1],.int .i64 a1,.int .i64 a2] w fun e w'=>e = .returned (.bool r) ∧ Below w.heap.size w w':=by
 have hu24:=Try.underlying24
 have HR0_0:=Aside0.mk hr0_0
 have HC0_0:=Aside0.mk hc0_0
 clear hr0_0 hc0_0
 have HR0_1:=Aside0.mk hr0_1
 have HC0_1:=Aside0.mk hc0_1
 clear hr0_1 hc0_1
 have HB:=zk (Below.refl w.heap.size w)
 have H:((q16.f l0_0 l0_1 a1).bind fun t102=>(if t102 = true then (if a2 = (-1) then (q27.j0 k a1 a2 false l0_0 l0_1) else ((q16.f l0_0 l0_1 a2).bind fun t103=>(q27.j0 k a1 a2 (!t103) l0_0 l0_1))) else (q27.j0 k a1 a2 true l0_0 l0_1))) = some r:=h
 clear h
 have HC4:=Aside0.mk H
 clear H
 go_enter Try.func27,Try.ntmps27
 go_upto_region 1 with (first|((with_reducible refine gate_dst (N:=3) rfl ?_);refine box_event ?hg (N:=3) ?hd (cs:=#[.slice A0_0 l0_0.length c0_0,.slice A0_1 l0_1.length c0_1]) (t:=24) ?hr ?_;(case hd=>rfl);(case hg=>rfl);(case hr=>first|(go_simp;done)|(go_simp;rfl));intro gb101 hg w5 hbox hb;have n0_:=zk (below_step (bq HB.out) hb);have n1_:=zk (hbox);have n2_:=zk ((by rw [hg];exact (below_size (bq HB.out)):w.heap.size ≤ gb101));have n3_:=zk ((by rw [hg];exact (below_size (bq HB.out)):w.heap.size ≤ gb101));clear HB;have HB:=n0_;have BK101:=n1_;have GW101:=n2_;have GE101:=n3_;clear n0_ n1_ n2_ n3_;clear hb hbox hg))
 (try simp only [Act.put,List.setIfInBounds_toArray,List.set_cons_zero,List.set_cons_succ])
 go_cut [20] (fun v20 wc=>∃ (kq:Nat) (x20_3:Bool),v20 = .bool x20_3 ∧ Aside0 (q27.j0 kq a1 a2 x20_3 l0_0 l0_1 = some r) ∧ Aside0 (kq ≤ k) ∧ Aside0 (wc.heap[gb101]? = some (.cells #[(.slice A0_0 l0_0.length c0_0),(.slice A0_1 l0_1.length c0_1)] 24 (0,0))) ∧ Aside0 (Below w.heap.size w wc))
 case first =>
  have H:=HC4.out
  clear HC4
  replace H:=Option.bind_eq_some_iff.mp H
  obtain ⟨t102,A60,H⟩:=H
  replace H:(if t102 = true then (if a2 = (-1) then (q27.j0 k a1 a2 false l0_0 l0_1) else ((q16.f l0_0 l0_1 a2).bind fun t103=>(q27.j0 k a1 a2 (!t103) l0_0 l0_1))) else (q27.j0 k a1 a2 true l0_0 l0_1)) = some r:=H
  have A6:=Aside0.mk A60
  clear A60
  by_cases c7:t102 = true
  ·subst c7
   have H1:(if a2 = (-1) then (q27.j0 k a1 a2 false l0_0 l0_1) else ((q16.f l0_0 l0_1 a2).bind fun t103=>(q27.j0 k a1 a2 (!t103) l0_0 l0_1))) = some r:=by rw [if_pos rfl] at H;exact H
   clear H
   have H:=H1
   clear H1
   by_cases c8:a2 = (-1)
   ·rw [if_pos c8] at H
    have c8b0:(a2 == (-1)) = true:=beq_iff_eq.mpr c8
    have c8b1:(a2 != (-1)) = false:=bne_eq_false_iff_eq.mpr c8
    clear c8
    (first|rw [c8b0]|(simp only [i64_w,i32_w];rw [c8b0])|skip)
    have H':=Aside0.mk H
    clear H
    have hcz9_0:w5.cell? ⟨gb101,0,none⟩ = some (.slice A0_0 l0_0.length c0_0):=(blk_cell BK101.out 0).trans rfl
    have hcz9_1:w5.cell? ⟨gb101,1,none⟩ = some (.slice A0_1 l0_1.length c0_1):=(blk_cell BK101.out 1).trans rfl
    have hfz9_0:=blk_frozen BK101.out 0
    have hfz9_1:=blk_frozen BK101.out 1
    go_wp2_with (first|((with_reducible refine gate_callee (f:=51) rfl ?_);refine goesL_ (some 9) rfl rfl Try.func51 (by kernel_rfl) rfl #[.agg #[.slice A0_0 l0_0.length c0_0,.slice A0_1 l0_1.length c0_1],.int .i64 a1] rfl oF ?_;(with_reducible refine (q16.calls _ _ l0_0 _ _ l0_1 a1 true _ ?side1 ?side2 ?side3 ?side4 A6.out).mono ?_);(case side1=>exact cq (Kd.C_below HR0_0.out HB.out));(case side2=>exact HC0_0.out);(case side3=>exact cq (Kd.C_below HR0_1.out HB.out));(case side4=>exact HC0_1.out);rintro e w10 ⟨rfl,hb⟩;refine ⟨_,rfl,?_⟩;have n0_:=zk (blk_below (g:=gb101) (o:=.cells #[.slice A0_0 l0_0.length c0_0,.slice A0_1 l0_1.length c0_1] 24 (0,0)) (hq BK101.out) hb);have n1_:=zk (below_step (bg HB.out GE101 GE101) hb);clear BK101;clear HB;have BK101:=n0_;have HB:=n1_;clear n0_ n1_;(try clear hb);(try clear hb2);(try clear hk);(try clear hi)))
    go_meet
    case rel=>exact ⟨_,(false),oE,H',⟨by first|omega|exact Nat.le_refl _⟩,⟨hq BK101.out⟩,⟨bg HB.out GE101 GE101⟩⟩
   ·rw [if_neg c8] at H
    have c8b0:(a2 == (-1)) = false:=beq_eq_false_iff_ne.mpr c8
    have c8b1:(a2 != (-1)) = true:=bne_iff_ne.mpr c8
    (first|rw [c8b0]|(simp only [i64_w,i32_w];rw [c8b0])|skip)
    replace H:=Option.bind_eq_some_iff.mp H
    obtain ⟨t103,A110,H⟩:=H
    replace H:(q27.j0 k a1 a2 (!t103) l0_0 l0_1) = some r:=H
    have A11:=Aside0.mk A110
    clear A110
    have H':=Aside0.mk H
    clear H
    have hcz12_0:w5.cell? ⟨gb101,0,none⟩ = some (.slice A0_0 l0_0.length c0_0):=(blk_cell BK101.out 0).trans rfl
    have hcz12_1:w5.cell? ⟨gb101,1,none⟩ = some (.slice A0_1 l0_1.length c0_1):=(blk_cell BK101.out 1).trans rfl
    have hfz12_0:=blk_frozen BK101.out 0
    have hfz12_1:=blk_frozen BK101.out 1
    go_wp2_with (first|((with_reducible refine gate_callee (f:=51) rfl ?_);refine goesL_ (some 9) rfl rfl Try.func51 (by kernel_rfl) rfl #[.agg #[.slice A0_0 l0_0.length c0_0,.slice A0_1 l0_1.length c0_1],.int .i64 a1] rfl oF ?_;(with_reducible refine (q16.calls _ _ l0_0 _ _ l0_1 a1 true _ ?side1 ?side2 ?side3 ?side4 A6.out).mono ?_);(case side1=>exact cq (Kd.C_below HR0_0.out HB.out));(case side2=>exact HC0_0.out);(case side3=>exact cq (Kd.C_below HR0_1.out HB.out));(case side4=>exact HC0_1.out);rintro e w13 ⟨rfl,hb⟩;refine ⟨_,rfl,?_⟩;have n0_:=zk (blk_below (g:=gb101) (o:=.cells #[.slice A0_0 l0_0.length c0_0,.slice A0_1 l0_1.length c0_1] 24 (0,0)) (hq BK101.out) hb);have n1_:=zk (below_step (bg HB.out GE101 GE101) hb);clear BK101;clear HB;have BK101:=n0_;have HB:=n1_;clear n0_ n1_;(try clear hb);(try clear hb2);(try clear hk);(try clear hi);have hcz14_0:w13.cell? ⟨gb101,0,none⟩ = some (.slice A0_0 l0_0.length c0_0):=(blk_cell BK101.out 0).trans rfl;have hcz14_1:w13.cell? ⟨gb101,1,none⟩ = some (.slice A0_1 l0_1.length c0_1):=(blk_cell BK101.out 1).trans rfl;have hfz14_0:=blk_frozen BK101.out 0;have hfz14_1:=blk_frozen BK101.out 1)|(go_at_call 51;(with_reducible refine (q16.calls _ _ l0_0 _ _ l0_1 a2 t103 _ ?side1 ?side2 ?side3 ?side4 A11.out).mono ?_);(case side1=>exact cq (Kd.C_below HR0_0.out HB.out));(case side2=>exact HC0_0.out);(case side3=>exact cq (Kd.C_below HR0_1.out HB.out));(case side4=>exact HC0_1.out);rintro e w15 ⟨rfl,hb⟩;have n0_:=zk (blk_below (g:=gb101) (o:=.cells #[.slice A0_0 l0_0.length c0_0,.slice A0_1 l0_1.length c0_1] 24 (0,0)) (hq BK101.out) hb);have n1_:=zk (below_step (bg HB.out GE101 GE101) hb);clear BK101;clear HB;have BK101:=n0_;have HB:=n1_;clear n0_ n1_;(try clear hb);(try clear hb2);(try clear hk);(try clear hi)))
    go_meet
    case rel=>exact ⟨_,(!t103),oE,H',⟨by first|omega|exact Nat.le_refl _⟩,⟨hq BK101.out⟩,⟨bg HB.out GE101 GE101⟩⟩
  ·replace c7:=Bool.eq_false_iff.mpr c7
   subst c7
   have H1:(q27.j0 k a1 a2 true l0_0 l0_1) = some r:=by rw [if_neg (show ¬ (false = true) by decide)] at H;exact H
   clear H
   have H:=H1
   clear H1
   have H':=Aside0.mk H
   clear H
   have hcz16_0:w5.cell? ⟨gb101,0,none⟩ = some (.slice A0_0 l0_0.length c0_0):=(blk_cell BK101.out 0).trans rfl
   have hcz16_1:w5.cell? ⟨gb101,1,none⟩ = some (.slice A0_1 l0_1.length c0_1):=(blk_cell BK101.out 1).trans rfl
   have hfz16_0:=blk_frozen BK101.out 0
   have hfz16_1:=blk_frozen BK101.out 1
   go_wp2_with (first|((with_reducible refine gate_callee (f:=51) rfl ?_);refine goesL_ (some 9) rfl rfl Try.func51 (by kernel_rfl) rfl #[.agg #[.slice A0_0 l0_0.length c0_0,.slice A0_1 l0_1.length c0_1],.int .i64 a1] rfl oF ?_;(with_reducible refine (q16.calls _ _ l0_0 _ _ l0_1 a1 false _ ?side1 ?side2 ?side3 ?side4 A6.out).mono ?_);(case side1=>exact cq (Kd.C_below HR0_0.out HB.out));(case side2=>exact HC0_0.out);(case side3=>exact cq (Kd.C_below HR0_1.out HB.out));(case side4=>exact HC0_1.out);rintro e w17 ⟨rfl,hb⟩;refine ⟨_,rfl,?_⟩;have n0_:=zk (blk_below (g:=gb101) (o:=.cells #[.slice A0_0 l0_0.length c0_0,.slice A0_1 l0_1.length c0_1] 24 (0,0)) (hq BK101.out) hb);have n1_:=zk (below_step (bg HB.out GE101 GE101) hb);clear BK101;clear HB;have BK101:=n0_;have HB:=n1_;clear n0_ n1_;(try clear hb);(try clear hb2);(try clear hk);(try clear hi)))
   go_meet
   case rel=>exact ⟨_,(true),oE,H',⟨by first|omega|exact Nat.le_refl _⟩,⟨hq BK101.out⟩,⟨bg HB.out GE101 GE101⟩⟩
 case rest =>
  clear HC4
  try clear c2
  try clear p2
  try clear c5
  try clear c7
  try clear c8
  try clear c8b0
  try clear c8b1
  try clear hcz12_0
  try clear hcz12_1
  try clear hcz14_0
  try clear hcz14_1
  try clear hcz16_0
  try clear hcz16_1
  try clear hcz9_0
  try clear hcz9_1
  try clear hfz12_0
  try clear hfz12_1
  try clear hfz14_0
  try clear hfz14_1
  try clear hfz16_0
  try clear hfz16_1
  try clear hfz9_0
  try clear hfz9_1
  obtain ⟨kq,x20_3,rfl,HA,HJ3,BK101,HB⟩:=hcut
  cases kq with
  | zero=>exact absurd HA.out (by simp [q27.j0])
  | succ kj3 =>
   have H:=HA.out
   clear HA
   simp only [q27.j0] at H
   by_cases c18:x20_3 = true
   ·subst c18
    have H1:(some false) = some r:=by rw [if_pos rfl] at H;exact H
    clear H
    have H:=H1
    clear H1
    obtain rfl:=Option.some.inj H
    go_wp2
    go_ret
    exact ⟨by first|rfl|(simp [errW_none,errW_some] <;> rfl)|(simp [*,errW_none,errW_some] <;> rfl),bg HB.out GE101 GE101⟩
   ·replace c18:=Bool.eq_false_iff.mpr c18
    subst c18
    have H1:(q27.l0 kj3 a1 a2 l0_0 l0_1) = some r:=by rw [if_neg (show ¬ (false = true) by decide)] at H;exact H
    clear H
    have H:=H1
    clear H1
    have H':=Aside0.mk H
    clear H
    go_wp2
    go_loopg [1] kj3 (fun kq v1 w'=>∃ (x1_2:Int),v1 = .int .i64 x1_2 ∧ Aside0 (q27.l0 kq x1_2 a2 l0_0 l0_1 = some r) ∧ Aside0 (kq ≤ kj3) ∧ Aside0 (w'.heap[gb101]? = some (.cells #[(.slice A0_0 l0_0.length c0_0),(.slice A0_1 l0_1.length c0_1)] 24 (0,0))) ∧ Aside0 (Below w.heap.size w w'))
    case atStart=>exact ⟨(a1),oE,H',⟨Nat.le_refl _⟩,⟨hq BK101.out⟩,⟨bg HB.out GE101 GE101⟩⟩
    case round =>
     clear H'
     try clear c1
     try clear c2
     try clear p2
     try clear c5
     try clear c7
     try clear c8
     try clear c8b0
     try clear c8b1
     try clear c18
     try clear hcz12_0
     try clear hcz12_1
     try clear hcz14_0
     try clear hcz14_1
     try clear hcz16_0
     try clear hcz16_1
     try clear hcz9_0
     try clear hcz9_1
     try clear hfz12_0
     try clear hfz12_1
     try clear hfz14_0
     try clear hfz14_1
     try clear hfz16_0
     try clear hfz16_1
     try clear hfz9_0
     try clear hfz9_1
     try clear p2
     obtain ⟨x1_2,rfl,HA,HK2,BK101,HB⟩:=hrel
     cases gk with
     | zero=>exact absurd HA.out (by simp [q27.l0])
     | succ k2 =>
      have H:=HA.out
      clear HA
      simp only [q27.l0] at H
      by_cases c19:x1_2 > a2
      ·rw [if_pos c19] at H
       have c19b0:decide (a2 < x1_2) = true:=decide_eq_true c19
       clear c19
       by_cases c20:0 ≤ x1_2
       ·rw [if_pos c20] at H
        have c20b0:decide (0 ≤ x1_2) = true:=decide_eq_true c20
        clear c20
        by_cases c21:x1_2 < (l0_1.length:Int)
        ·rw [if_pos c21] at H
         have c21b0:decide (x1_2 < (l0_1.length:Int)) = true:=decide_eq_true c21
         clear c21
         have H':=Aside0.mk H
         clear H
         have hcz22_0:wr.cell? ⟨gb101,0,none⟩ = some (.slice A0_0 l0_0.length c0_0):=(blk_cell BK101.out 0).trans rfl
         have hcz22_1:wr.cell? ⟨gb101,1,none⟩ = some (.slice A0_1 l0_1.length c0_1):=(blk_cell BK101.out 1).trans rfl
         have hfz22_0:=blk_frozen BK101.out 0
         have hfz22_1:=blk_frozen BK101.out 1
         have p104:0 ≤ (x1_2:Int):=oA
         have q104:x1_2 < (l0_1.length:Int):=oA
         obtain ⟨ad104,e104,hx104_0⟩:=Kd.at_int HR0_1.out x1_2 p104 q104
         cases e104
         replace hx104_0:=(HB.out.cell (World.block_lt_of_cell? w _ hx104_0)).trans hx104_0
         replace p104:=eq_true p104
         replace q104:=eq_true q104
         go_wp2
         go_roundg k2
         case measure=>have:=HJ3.out;have:=HK2.out;omega
         case rel=>exact ⟨(rd l0_1 x1_2),oE,H',⟨by have:=HJ3.out;have:=HK2.out;omega⟩,⟨hq BK101.out⟩,⟨bg HB.out GE101 GE101⟩⟩
        ·rw [if_neg c21] at H
         exact absurd H (by simp)
       ·rw [if_neg c20] at H
        exact absurd H (by simp)
      ·rw [if_neg c19] at H
       have c19b0:decide (a2 < x1_2) = false:=decide_eq_false c19
       clear c19
       obtain rfl:=Option.some.inj H
       go_wp2
       go_ret
       exact ⟨by first|rfl|(simp [errW_none,errW_some] <;> rfl)|(simp [*,errW_none,errW_some] <;> rfl),bg HB.out GE101 GE101⟩
def q31.f (a0:Int) (a1:Int):Option (Bool):=if a1 ≥ 0 then (if 0 ≤ a1 then (some ((Go.bits .and .u32 (shr .u32 a0 a1) 1) == 1)) else (none)) else (some false)
set_option maxHeartbeats 8000000 in
set_option maxRecDepth 100000 in
theorem q31.calls (a0:Int) (a1:Int) (r:Bool) (w:World) (h:q31.f a0 a1 = some r) :
  Calls Try.prog 58 #[.int .u32 a0,.int .i64 a1] w fun e w'=>e = .returned (.bool r) ∧ Drawn0 w w':=by
 have H:(if a1 ≥ 0 then (if 0 ≤ a1 then (some ((Go.bits .and .u32 (shr .u32 a0 a1) 1) == 1)) else (none)) else (some false)) = some r:=h
 clear h
 by_cases c3:a1 ≥ 0
 ·rw [if_pos c3] at H
  have c3b0:decide (0 ≤ a1) = true:=decide_eq_true c3
  clear c3
  by_cases c4:0 ≤ a1
  ·rw [if_pos c4] at H
   have c4b0:=eq_true c4
   have c4b1:decide (0 ≤ a1) = true:=decide_eq_true c4
   clear c4
   obtain ⟨ji5,hji5⟩:∃ j_:Int,(shr .u32 a0 a1) = j_:=⟨_,rfl⟩
   replace H:(some ((Go.bits .and .u32 (ji5) 1) == 1)) = some r:=by first|(rw [hji5] at H;exact H)|(simp only [hji5] at H ⊢;exact H)
   have hji5_:(a0 / 2 ^ min a1.toNat 32) = ji5:=hji5
   have hji5z:a1 ≤ 32 → (a0 / 2 ^ a1.toNat) = ji5:=shr_small hji5
   obtain rfl:=Option.some.inj H
   go_enter Try.func58,Try.ntmps58
   go_wp2
   go_ret
   exact ⟨by first|rfl|(simp;done)|(simp only [← hji5] <;> (first|rfl|simp))|(simp [*];done),by repeat (first|exact Drawn0.refl _|apply Drawn0.step)⟩
  ·rw [if_neg c4] at H
   exact absurd H (by simp)
 ·rw [if_neg c3] at H
  have c3b0:decide (0 ≤ a1) = false:=decide_eq_false c3
  clear c3
  obtain rfl:=Option.some.inj H
  go_enter Try.func58,Try.ntmps58
  go_wp2
  go_ret
  exact ⟨by first|rfl|(simp;done)|(simp [*];done),by repeat (first|exact Drawn0.refl _|apply Drawn0.step)⟩
def q26.l0:Nat → Int → Int → List Int → Int → Int → List Int → List Int → Option (List Int)
 | 0,_,_,_,_,_,_,_=>none
 | k + 1,x1,x2,x7,x11,x12,x102000,x102001=>if x12 < x11 then (if x12 = x2 then (q26.l0 k x1 x2 x7 x11 (wrap64 (x12 + 1)) x102000 x102001) else ((q31.f x1 x12).bind fun t102=>(if t102 = true then ((q27.f k x102000 x102001 x12 x2).bind fun t103=>(if t103 = true then (if x7.length < 17592186044416 then (q26.l0 k x1 x2 (x7 ++ [x12]) x11 (wrap64 (x12 + 1)) x102000 x102001) else (none)) else (q26.l0 k x1 x2 x7 x11 (wrap64 (x12 + 1)) x102000 x102001))) else (q26.l0 k x1 x2 x7 x11 (wrap64 (x12 + 1)) x102000 x102001)))) else (some x7)
def q26.f (k:Nat) (l0_0:List Int) (l0_1:List Int) (a1:Int) (a2:Int):Option (List Int):=q26.l0 k a1 a2 ([]:List Int) (l0_0.length:Int) 0 l0_0 l0_1
set_option maxHeartbeats 8000000 in
set_option maxRecDepth 100000 in
theorem q26.calls (k:Nat) (A0_0:Option Addr) (c0_0:Nat) (l0_0:List Int) (A0_1:Option Addr) (c0_1:Nat) (l0_1:List Int) (a1:Int) (a2:Int) (r:List Int) (w:World) (hr0_0:Kd.C (Kd.int .i64) w A0_0 l0_0.length l0_0) (hc0_0:l0_0.length ≤ c0_0) (hr0_1:Kd.C (Kd.int .i64) w A0_1 l0_1.length l0_1) (hc0_1:l0_1.length ≤ c0_1) (h:q26.f k l0_0 l0_1 a1 a2 = some r) :
  Calls Try.prog 49 #[.agg #[.slice A0_0 l0_0.length c0_0,.slice A0_1 l0_1.length c0_1],.int .u32 a1,.int .i64 a2] w fun e w'=>∃ v0_:Value,e = .returned (v0_) ∧ Kd.R (Kd.int .i64) 3 w' w.heap.size (fun _=>True) v0_ r ∧ Below w.heap.size w w':=by
 have hu24:=Try.underlying24
 have HR0_0:=Aside0.mk hr0_0
 have HC0_0:=Aside0.mk hc0_0
 clear hr0_0 hc0_0
 have HR0_1:=Aside0.mk hr0_1
 have HC0_1:=Aside0.mk hc0_1
 clear hr0_1 hc0_1
 have HB:=zk (Below.refl w.heap.size w)
 have H:(q26.l0 k a1 a2 ([]:List Int) (l0_0.length:Int) 0 l0_0 l0_1) = some r:=h
 clear h
 have H':=Aside0.mk H
 clear H
 go_enter Try.func49,Try.ntmps49
 go_wp2_with (first|((with_reducible refine gate_dst (N:=3) rfl ?_);refine box_event ?hg (N:=3) ?hd (cs:=#[.slice A0_0 l0_0.length c0_0,.slice A0_1 l0_1.length c0_1]) (t:=24) ?hr ?_;(case hd=>rfl);(case hg=>rfl);(case hr=>first|(go_simp;done)|(go_simp;rfl));intro gb101 hg w4 hbox hb;have n0_:=zk (below_step (bq HB.out) hb);have n1_:=zk (hbox);have n2_:=zk ((by rw [hg];exact (below_size (bq HB.out)):w.heap.size ≤ gb101));have n3_:=zk ((by rw [hg];exact (below_size (bq HB.out)):w.heap.size ≤ gb101));clear HB;have HB:=n0_;have BK101:=n1_;have GW101:=n2_;have GE101:=n3_;clear n0_ n1_ n2_ n3_;clear hb hbox hg;have hcz5_0:w4.cell? ⟨gb101,0,none⟩ = some (.slice A0_0 l0_0.length c0_0):=(blk_cell BK101.out 0).trans rfl;have hcz5_1:w4.cell? ⟨gb101,1,none⟩ = some (.slice A0_1 l0_1.length c0_1):=(blk_cell BK101.out 1).trans rfl;have hfz5_0:=blk_frozen BK101.out 0;have hfz5_1:=blk_frozen BK101.out 1))
 go_loopg [7,12] k (fun kq v7 v12 w'=>∃ (x7_1:List Int) (x12_1:Int),v12 = .int .i64 x12_1 ∧ Aside0 (q26.l0 kq a1 a2 x7_1 (l0_0.length:Int) x12_1 l0_0 l0_1 = some r) ∧ Aside0 (kq ≤ k) ∧ Aside0 (Kd.R (Kd.int .i64) 3 w' w.heap.size (fun _=>True) v7 x7_1) ∧ Aside0 (w'.heap[gb101]? = some (.cells #[(.slice A0_0 l0_0.length c0_0),(.slice A0_1 l0_1.length c0_1)] 24 (0,0))) ∧ Aside0 (Below w.heap.size w w'))
 case atStart=>exact ⟨(([]:List Int)),(0),oE,H',⟨Nat.le_refl _⟩,⟨by first|exact Kd.R_nil _ _ _ _ _|exact Kd.N_nil _ _ _ _ _|exact Kd.V_nil _ _ _ _ _|exact Kd.Q_nil _ _ _ _ _|exact Kd.S_nil _ _ _ _ _⟩,⟨hq BK101.out⟩,⟨bg HB.out GE101 GE101⟩⟩
 case round =>
  clear H'
  try clear p2
  try clear c4
  try clear hcz5_0
  try clear hcz5_1
  try clear hfz5_0
  try clear hfz5_1
  obtain ⟨x7_1,x12_1,rfl,HA,HK1,HO_7,BK101,HB⟩:=hrel
  cases gk with
  | zero=>exact absurd HA.out (by simp [q26.l0])
  | succ k1 =>
   have H:=HA.out
   clear HA
   simp only [q26.l0] at H
   by_cases c6:x12_1 < (l0_0.length:Int)
   ·rw [if_pos c6] at H
    have c6b0:decide (x12_1 < (l0_0.length:Int)) = true:=decide_eq_true c6
    clear c6
    by_cases c7:x12_1 = a2
    ·rw [if_pos c7] at H
     have c7b0:(x12_1 == a2) = true:=beq_iff_eq.mpr c7
     have c7b1:(x12_1 != a2) = false:=bne_eq_false_iff_eq.mpr c7
     clear c7
     have H':=Aside0.mk H
     clear H
     go_wp2
     go_roundg k1
     case measure=>have:=HK1.out;omega
     case rel=>exact ⟨(x7_1),(wrap64 (x12_1 + 1)),oE,H',⟨by have:=HK1.out;omega⟩,⟨rq HO_7.out⟩,⟨hq BK101.out⟩,⟨bg HB.out GE101 GE101⟩⟩
    ·rw [if_neg c7] at H
     have c7b0:(x12_1 == a2) = false:=beq_eq_false_iff_ne.mpr c7
     have c7b1:(x12_1 != a2) = true:=bne_iff_ne.mpr c7
     replace H:=Option.bind_eq_some_iff.mp H
     obtain ⟨t102,A80,H⟩:=H
     replace H:(if t102 = true then ((q27.f k1 l0_0 l0_1 x12_1 a2).bind fun t103=>(if t103 = true then (if x7_1.length < 17592186044416 then (q26.l0 k1 a1 a2 (x7_1 ++ [x12_1]) (l0_0.length:Int) (wrap64 (x12_1 + 1)) l0_0 l0_1) else (none)) else (q26.l0 k1 a1 a2 x7_1 (l0_0.length:Int) (wrap64 (x12_1 + 1)) l0_0 l0_1))) else (q26.l0 k1 a1 a2 x7_1 (l0_0.length:Int) (wrap64 (x12_1 + 1)) l0_0 l0_1)) = some r:=H
     have A8:=Aside0.mk A80
     clear A80
     by_cases c9:t102 = true
     ·subst c9
      have H1:((q27.f k1 l0_0 l0_1 x12_1 a2).bind fun t103=>(if t103 = true then (if x7_1.length < 17592186044416 then (q26.l0 k1 a1 a2 (x7_1 ++ [x12_1]) (l0_0.length:Int) (wrap64 (x12_1 + 1)) l0_0 l0_1) else (none)) else (q26.l0 k1 a1 a2 x7_1 (l0_0.length:Int) (wrap64 (x12_1 + 1)) l0_0 l0_1))) = some r:=by rw [if_pos rfl] at H;exact H
      clear H
      have H:=H1
      clear H1
      replace H:=Option.bind_eq_some_iff.mp H
      obtain ⟨t103,A100,H⟩:=H
      replace H:(if t103 = true then (if x7_1.length < 17592186044416 then (q26.l0 k1 a1 a2 (x7_1 ++ [x12_1]) (l0_0.length:Int) (wrap64 (x12_1 + 1)) l0_0 l0_1) else (none)) else (q26.l0 k1 a1 a2 x7_1 (l0_0.length:Int) (wrap64 (x12_1 + 1)) l0_0 l0_1)) = some r:=H
      have A10:=Aside0.mk A100
      clear A100
      by_cases c11:t103 = true
      ·subst c11
       have H1:(if x7_1.length < 17592186044416 then (q26.l0 k1 a1 a2 (x7_1 ++ [x12_1]) (l0_0.length:Int) (wrap64 (x12_1 + 1)) l0_0 l0_1) else (none)) = some r:=by rw [if_pos rfl] at H;exact H
       clear H
       have H:=H1
       clear H1
       by_cases c12:x7_1.length < 17592186044416
       ·rw [if_pos c12] at H
        have LMc12:=Aside0.mk c12
        clear c12
        obtain ⟨y104,hy104⟩:∃ y_:List Int,y_ = (x7_1 ++ [x12_1]):=⟨_,rfl⟩
        replace H:(q26.l0 k1 a1 a2 y104 (l0_0.length:Int) (wrap64 (x12_1 + 1)) l0_0 l0_1) = some r:=by first|(rw [hy104];with_reducible exact H)|(have H2_:=(Option.bind_some _ _).symm.trans H;rw [hy104];with_reducible exact H2_)|(have H2_:=(Option.bind_some _ _).symm.trans H;with_reducible exact H2_)|with_reducible exact H|(rw [hy104];exact H)|exact H
        have Ny104:=Aside0.mk hy104
        clear hy104
        have H':=Aside0.mk H
        clear H
        go_wp2_with (first|(go_at_call 58;(with_reducible refine (q31.calls a1 x12_1 true _ A8.out).mono ?_);rintro e w' ⟨rfl,⟨nd,rfl⟩⟩;have hcz13_0:wr.cell? ⟨gb101,0,none⟩ = some (.slice A0_0 l0_0.length c0_0):=(blk_cell BK101.out 0).trans rfl;have hcz13_1:wr.cell? ⟨gb101,1,none⟩ = some (.slice A0_1 l0_1.length c0_1):=(blk_cell BK101.out 1).trans rfl;have hfz13_0:=blk_frozen BK101.out 0;have hfz13_1:=blk_frozen BK101.out 1)|(go_at_call 27;(with_reducible refine (q27.calls k1 _ _ l0_0 _ _ l0_1 x12_1 a2 true _ ?side1 ?side2 ?side3 ?side4 A10.out).mono ?_);(case side1=>exact (Kd.C_below HR0_0.out (bg HB.out GE101 GE101)));(case side2=>exact HC0_0.out);(case side3=>exact (Kd.C_below HR0_1.out (bg HB.out GE101 GE101)));(case side4=>exact HC0_1.out);rintro e w14 ⟨rfl,hb⟩;have n0_:=zk (Kd.R_below (rq HO_7.out) hb);have n1_:=zk (blk_below (g:=gb101) (o:=.cells #[.slice A0_0 l0_0.length c0_0,.slice A0_1 l0_1.length c0_1] 24 (0,0)) (hq BK101.out) hb);have n2_:=zk (below_step (bg HB.out GE101 GE101) hb);clear HO_7;clear BK101;clear HB;have HO_7:=n0_;have BK101:=n1_;have HB:=n2_;clear n0_ n1_ n2_;(try clear hb);(try clear hb2);(try clear hk);(try clear hi))|((with_reducible refine gate_builtin (b:=.append) (xs:=#[.tmp 29,.tmp 31]) rfl ?_);at_builtin;refine Kd.R_append (Kd.int .i64) (w0:=w) w.heap.size rfl (.tmp 29) (.tmp 31) 22 3 (.int .i64 0) 8 rfl Try.underlying22 info3 rfl (by decide) (by omega) u7 x7_1 x12_1 [.int .i64 x12_1] (fun _=>True) (fun _=>False) rfl rfl ?aP (fun _ hk=>hk.elim) ?aF ?aO ?aB ?aS ?aL ?_;(case aP=>exact rfl);(case aB=>exact (bg HB.out GE101 GE101));(case aF=>exact (fun _ _=>trivial));(case aO=>exact (rq HO_7.out));(case aS=>exact (below_size (bg HB.out GE101 GE101)));(case aL=>have:=LMc12.out;omega);intro v105 w15 ho hb hg hat;rw [← Ny104.out] at ho;have n0_:=zk (blk_grown (g:=gb101) (o:=.cells #[.slice A0_0 l0_0.length c0_0,.slice A0_1 l0_1.length c0_1] 24 (0,0)) (hq BK101.out) hg (Kd.R_ne HO_7.out BK101.out (by decide)));have n1_:=zk (hb);have n2_:=zk (ho);clear BK101;clear HB;clear HO_7;have BK101:=n0_;have HB:=n1_;have HO106:=n2_;clear n0_ n1_ n2_;clear ho hb hg hat))
        go_roundg k1
        case measure=>have:=HK1.out;omega
        case rel=>exact ⟨(y104),(wrap64 (x12_1 + 1)),oE,H',⟨by have:=HK1.out;omega⟩,⟨rq HO106.out⟩,⟨hq BK101.out⟩,⟨bg HB.out GE101 GE101⟩⟩
       ·rw [if_neg c12] at H
        exact absurd H (by simp)
      ·replace c11:=Bool.eq_false_iff.mpr c11
       subst c11
       have H1:(q26.l0 k1 a1 a2 x7_1 (l0_0.length:Int) (wrap64 (x12_1 + 1)) l0_0 l0_1) = some r:=by rw [if_neg (show ¬ (false = true) by decide)] at H;exact H
       clear H
       have H:=H1
       clear H1
       have H':=Aside0.mk H
       clear H
       go_wp2_with (first|(go_at_call 58;(with_reducible refine (q31.calls a1 x12_1 true _ A8.out).mono ?_);rintro e w' ⟨rfl,⟨nd,rfl⟩⟩;have hcz16_0:wr.cell? ⟨gb101,0,none⟩ = some (.slice A0_0 l0_0.length c0_0):=(blk_cell BK101.out 0).trans rfl;have hcz16_1:wr.cell? ⟨gb101,1,none⟩ = some (.slice A0_1 l0_1.length c0_1):=(blk_cell BK101.out 1).trans rfl;have hfz16_0:=blk_frozen BK101.out 0;have hfz16_1:=blk_frozen BK101.out 1)|(go_at_call 27;(with_reducible refine (q27.calls k1 _ _ l0_0 _ _ l0_1 x12_1 a2 false _ ?side1 ?side2 ?side3 ?side4 A10.out).mono ?_);(case side1=>exact (Kd.C_below HR0_0.out (bg HB.out GE101 GE101)));(case side2=>exact HC0_0.out);(case side3=>exact (Kd.C_below HR0_1.out (bg HB.out GE101 GE101)));(case side4=>exact HC0_1.out);rintro e w17 ⟨rfl,hb⟩;have n0_:=zk (Kd.R_below (rq HO_7.out) hb);have n1_:=zk (blk_below (g:=gb101) (o:=.cells #[.slice A0_0 l0_0.length c0_0,.slice A0_1 l0_1.length c0_1] 24 (0,0)) (hq BK101.out) hb);have n2_:=zk (below_step (bg HB.out GE101 GE101) hb);clear HO_7;clear BK101;clear HB;have HO_7:=n0_;have BK101:=n1_;have HB:=n2_;clear n0_ n1_ n2_;(try clear hb);(try clear hb2);(try clear hk);(try clear hi)))
       go_roundg k1
       case measure=>have:=HK1.out;omega
       case rel=>exact ⟨(x7_1),(wrap64 (x12_1 + 1)),oE,H',⟨by have:=HK1.out;omega⟩,⟨rq HO_7.out⟩,⟨hq BK101.out⟩,⟨bg HB.out GE101 GE101⟩⟩
     ·replace c9:=Bool.eq_false_iff.mpr c9
      subst c9
      have H1:(q26.l0 k1 a1 a2 x7_1 (l0_0.length:Int) (wrap64 (x12_1 + 1)) l0_0 l0_1) = some r:=by rw [if_neg (show ¬ (false = true) by decide)] at H;exact H
      clear H
      have H:=H1
      clear H1
      have H':=Aside0.mk H
      clear H
      go_wp2_with (first|(go_at_call 58;(with_reducible refine (q31.calls a1 x12_1 false _ A8.out).mono ?_);rintro e w' ⟨rfl,⟨nd,rfl⟩⟩))
      go_roundg k1
      case measure=>have:=HK1.out;omega
      case rel=>exact ⟨(x7_1),(wrap64 (x12_1 + 1)),oE,H',⟨by have:=HK1.out;omega⟩,⟨rq HO_7.out⟩,⟨hq BK101.out⟩,⟨bg HB.out GE101 GE101⟩⟩
   ·rw [if_neg c6] at H
    have c6b0:decide (x12_1 < (l0_0.length:Int)) = false:=decide_eq_false c6
    clear c6
    obtain rfl:=Option.some.inj H
    go_wp2
    go_ret
    exact ⟨_,by first|rfl|(simp [errW_none,errW_some] <;> rfl)|(simp [*,errW_none,errW_some] <;> rfl),rq HO_7.out,bg HB.out GE101 GE101⟩
def q25.l0:Nat → List Int → List Int → Int → Int → Option (List Int)
 | 0,_,_,_,_=>none
 | k + 1,x7,x8,x15,x16=>if x16 < x15 then (if 0 ≤ (wrap64 ((wrap64 ((x8.length:Int) - 1)) - x16)) then (if (wrap64 ((wrap64 ((x8.length:Int) - 1)) - x16)) < (x8.length:Int) then (if x7.length < 17592186044416 then (q25.l0 k (x7 ++ [rd x8 (wrap64 ((wrap64 ((x8.length:Int) - 1)) - x16))]) x8 x15 (wrap64 (x16 + 1))) else (none)) else (none)) else (none)) else (some x7)
def q25.f (k:Nat) (l0_0:List Int) (l0_1:List Int) (a1:Int) (a2:Int):Option (List Int):=(q26.f k l0_0 l0_1 a1 a2).bind fun t102=>(q25.l0 k ([]:List Int) t102 (t102.length:Int) 0)
set_option maxHeartbeats 8000000 in
set_option maxRecDepth 100000 in
theorem q25.calls (k:Nat) (A0_0:Option Addr) (c0_0:Nat) (l0_0:List Int) (A0_1:Option Addr) (c0_1:Nat) (l0_1:List Int) (a1:Int) (a2:Int) (r:List Int) (w:World) (hr0_0:Kd.C (Kd.int .i64) w A0_0 l0_0.length l0_0) (hc0_0:l0_0.length ≤ c0_0) (hr0_1:Kd.C (Kd.int .i64) w A0_1 l0_1.length l0_1) (hc0_1:l0_1.length ≤ c0_1) (h:q25.f k l0_0 l0_1 a1 a2 = some r) :
  Calls Try.prog 23 #[.agg #[.slice A0_0 l0_0.length c0_0,.slice A0_1 l0_1.length c0_1],.int .u32 a1,.int .i64 a2] w fun e w'=>∃ v0_:Value,e = .returned (v0_) ∧ Kd.R (Kd.int .i64) 3 w' w.heap.size (fun _=>True) v0_ r ∧ Below w.heap.size w w':=by
 have hu24:=Try.underlying24
 have HR0_0:=Aside0.mk hr0_0
 have HC0_0:=Aside0.mk hc0_0
 clear hr0_0 hc0_0
 have HR0_1:=Aside0.mk hr0_1
 have HC0_1:=Aside0.mk hc0_1
 clear hr0_1 hc0_1
 have HB:=zk (Below.refl w.heap.size w)
 have H:((q26.f k l0_0 l0_1 a1 a2).bind fun t102=>(q25.l0 k ([]:List Int) t102 (t102.length:Int) 0)) = some r:=h
 clear h
 replace H:=Option.bind_eq_some_iff.mp H
 obtain ⟨t102,A40,H⟩:=H
 replace H:(q25.l0 k ([]:List Int) t102 (t102.length:Int) 0) = some r:=H
 have A4:=Aside0.mk A40
 clear A40
 have H':=Aside0.mk H
 clear H
 go_enter Try.func23,Try.ntmps23
 go_wp2_with (first|((with_reducible refine gate_dst (N:=3) rfl ?_);refine box_event ?hg (N:=3) ?hd (cs:=#[.slice A0_0 l0_0.length c0_0,.slice A0_1 l0_1.length c0_1]) (t:=24) ?hr ?_;(case hd=>rfl);(case hg=>rfl);(case hr=>first|(go_simp;done)|(go_simp;rfl));intro gb101 hg w5 hbox hb;have n0_:=zk (below_step (bq HB.out) hb);have n1_:=zk (hbox);have n2_:=zk ((by rw [hg];exact (below_size (bq HB.out)):w.heap.size ≤ gb101));have n3_:=zk ((by rw [hg];exact (below_size (bq HB.out)):w.heap.size ≤ gb101));clear HB;have HB:=n0_;have BK101:=n1_;have GW101:=n2_;have GE101:=n3_;clear n0_ n1_ n2_ n3_;clear hb hbox hg;have hcz6_0:w5.cell? ⟨gb101,0,none⟩ = some (.slice A0_0 l0_0.length c0_0):=(blk_cell BK101.out 0).trans rfl;have hcz6_1:w5.cell? ⟨gb101,1,none⟩ = some (.slice A0_1 l0_1.length c0_1):=(blk_cell BK101.out 1).trans rfl;have hfz6_0:=blk_frozen BK101.out 0;have hfz6_1:=blk_frozen BK101.out 1)|((with_reducible refine gate_callee (f:=49) rfl ?_);refine goesL_ (some 13) rfl rfl Try.func49 (by kernel_rfl) rfl #[.agg #[.slice A0_0 l0_0.length c0_0,.slice A0_1 l0_1.length c0_1],.int .u32 a1,.int .i64 a2] rfl oF ?_;(with_reducible refine (q26.calls k _ _ l0_0 _ _ l0_1 a1 a2 t102 _ ?side1 ?side2 ?side3 ?side4 A4.out).mono ?_);(case side1=>exact cq (Kd.C_below HR0_0.out HB.out));(case side2=>exact HC0_0.out);(case side3=>exact cq (Kd.C_below HR0_1.out HB.out));(case side4=>exact HC0_1.out);rintro e w7 ⟨v103,rfl,ho0,hb⟩;refine ⟨_,rfl,?_⟩;have n0_:=zk (Kd.R_lower ho0 (below_size (bg HB.out GE101 GE101)));have n1_:=zk (blk_below (g:=gb101) (o:=.cells #[.slice A0_0 l0_0.length c0_0,.slice A0_1 l0_1.length c0_1] 24 (0,0)) (hq BK101.out) hb);have n2_:=zk (below_step (bg HB.out GE101 GE101) hb);clear BK101;clear HB;have HO104:=n0_;have BK101:=n1_;have HB:=n2_;clear n0_ n1_ n2_;(try clear hb);(try clear hb2);(try clear hk);(try clear hi);(try clear ho0);obtain ⟨Ao8,co8,eo8⟩:=Kd.R_slice HO104.out;subst eo8))
 go_loopg [7,16] k (fun kq v7 v16 w'=>∃ (x7_1:List Int) (x16_1:Int),v16 = .int .i64 x16_1 ∧ Aside0 (q25.l0 kq x7_1 t102 (t102.length:Int) x16_1 = some r) ∧ Aside0 (kq ≤ k) ∧ Aside0 (Kd.R (Kd.int .i64) 3 w' w.heap.size (fun k_=>some k_ ≠ ((.slice Ao8 t102.length co8):Value).ownBlock) v7 x7_1) ∧ Aside0 (Kd.R (Kd.int .i64) 3 w' w.heap.size (fun k_=>some k_ ≠ (v7:Value).ownBlock) (.slice Ao8 t102.length co8) t102) ∧ Aside0 (w'.heap[gb101]? = some (.cells #[(.slice A0_0 l0_0.length c0_0),(.slice A0_1 l0_1.length c0_1)] 24 (0,0))) ∧ Aside0 (Below w.heap.size w w'))
 case atStart=>exact ⟨(([]:List Int)),(0),oE,H',⟨Nat.le_refl _⟩,⟨by first|exact Kd.R_nil _ _ _ _ _|exact Kd.N_nil _ _ _ _ _|exact Kd.V_nil _ _ _ _ _|exact Kd.Q_nil _ _ _ _ _|exact Kd.S_nil _ _ _ _ _⟩,⟨rq (Kd.R_mono HO104.out (fun _ hk=>(by simp [Value.ownBlock])))⟩,⟨hq BK101.out⟩,⟨bg HB.out GE101 GE101⟩⟩
 case round =>
  clear H'
  try clear c2
  try clear p2
  try clear c4
  try clear hcz6_0
  try clear hcz6_1
  try clear hfz6_0
  try clear hfz6_1
  obtain ⟨x7_1,x16_1,rfl,HA,HK1,HO_7,HO_8,BK101,HB⟩:=hrel
  cases gk with
  | zero=>exact absurd HA.out (by simp [q25.l0])
  | succ k1 =>
   have H:=HA.out
   clear HA
   simp only [q25.l0] at H
   by_cases c9:x16_1 < (t102.length:Int)
   ·rw [if_pos c9] at H
    have c9b0:decide (x16_1 < (t102.length:Int)) = true:=decide_eq_true c9
    clear c9
    obtain ⟨ji10,hji10⟩:∃ j_:Int,(wrap64 ((wrap64 ((t102.length:Int) - 1)) - x16_1)) = j_:=⟨_,rfl⟩
    replace H:(if 0 ≤ (ji10) then (if (ji10) < (t102.length:Int) then (if x7_1.length < 17592186044416 then (q25.l0 k1 (x7_1 ++ [rd t102 (ji10)]) t102 (t102.length:Int) (wrap64 (x16_1 + 1))) else (none)) else (none)) else (none)) = some r:=by first|(rw [hji10] at H;exact H)|(simp only [hji10] at H ⊢;exact H)
    have hji10w:(IntKind.i64.wrap ((wrap64 ((t102.length:Int) - 1)) - x16_1)) = ji10:=(i64_w _).trans hji10
    by_cases c11:0 ≤ (ji10)
    ·rw [if_pos c11] at H
     have c11b0:decide (0 ≤ (ji10)) = true:=decide_eq_true c11
     clear c11
     by_cases c12:(ji10) < (t102.length:Int)
     ·rw [if_pos c12] at H
      have c12b0:decide ((ji10) < (t102.length:Int)) = true:=decide_eq_true c12
      clear c12
      by_cases c13:x7_1.length < 17592186044416
      ·rw [if_pos c13] at H
       have LMc13:=Aside0.mk c13
       clear c13
       obtain ⟨y106,hy106⟩:∃ y_:List Int,y_ = (x7_1 ++ [rd t102 (ji10)]):=⟨_,rfl⟩
       replace H:(q25.l0 k1 y106 t102 (t102.length:Int) (wrap64 (x16_1 + 1))) = some r:=by first|(rw [hy106];with_reducible exact H)|(have H2_:=(Option.bind_some _ _).symm.trans H;rw [hy106];with_reducible exact H2_)|(have H2_:=(Option.bind_some _ _).symm.trans H;with_reducible exact H2_)|with_reducible exact H|(rw [hy106];exact H)|exact H
       have Ny106:=Aside0.mk hy106
       clear hy106
       have H':=Aside0.mk H
       clear H
       have p105:0 ≤ ((ji10):Int):=oA
       have q105:(ji10) < (t102.length:Int):=oA
       obtain ⟨ad105,e105,hx105_0⟩:=Kd.at_int (Kd.R_reads' HO_8.out).2.2 (ji10) p105 q105
       cases e105
       replace p105:=eq_true p105
       replace q105:=eq_true q105
       go_wp2_with (first|((with_reducible refine gate_builtin (b:=.append) (xs:=#[.tmp 19,.tmp 28]) rfl ?_);at_builtin;refine Kd.R_append (Kd.int .i64) (w0:=w) w.heap.size rfl (.tmp 19) (.tmp 28) 22 3 (.int .i64 0) 8 rfl Try.underlying22 info3 rfl (by decide) (by omega) u7 x7_1 (rd t102 (ji10)) [.int .i64 (rd t102 (ji10))] (fun k_=>some k_ ≠ (.slice (some ad105) t102.length co8:Value).ownBlock) (fun _=>False) rfl rfl ?aP (fun _ hk=>hk.elim) ?aF ?aO ?aB ?aS ?aL ?_;(case aP=>exact rfl);(case aB=>exact (bg HB.out GE101 GE101));(case aF=>exact (fun k_ hk=>Kd.fresh' (Kd.R_lt (rq HO_8.out)) k_ hk));(case aO=>exact (rq HO_7.out));(case aS=>exact (below_size (bg HB.out GE101 GE101)));(case aL=>have:=LMc13.out;omega);intro v107 w14 ho hb hg hat;rw [← Ny106.out] at ho;have n0_:=zk (Kd.R_after (ok:=(fun _=>True)) (rq (Kd.R_mono HO_8.out (fun _ hk=>⟨trivial,hk⟩))) hg hat);have n1_:=zk (blk_grown (g:=gb101) (o:=.cells #[.slice A0_0 l0_0.length c0_0,.slice A0_1 l0_1.length c0_1] 24 (0,0)) (hq BK101.out) hg (Kd.R_ne HO_7.out BK101.out (by decide)));have n2_:=zk (hb);have n3_:=zk (ho);clear HO_8;clear BK101;clear HB;clear HO_7;have HO_8:=n0_;have BK101:=n1_;have HB:=n2_;have HO108:=n3_;clear n0_ n1_ n2_ n3_;clear ho hb hg hat))
       go_roundg k1
       case measure=>have:=HK1.out;omega
       case rel=>exact ⟨(y106),(wrap64 (x16_1 + 1)),oE,(by first|exact H'|exact ⟨by simp only [hji10];exact H'.out⟩),⟨by have:=HK1.out;omega⟩,⟨rq HO108.out⟩,⟨rq (Kd.R_mono HO_8.out (fun _ hk=>hk.2))⟩,⟨hq BK101.out⟩,⟨bg HB.out GE101 GE101⟩⟩
      ·rw [if_neg c13] at H
       exact absurd H (by simp)
     ·rw [if_neg c12] at H
      exact absurd H (by simp)
    ·rw [if_neg c11] at H
     exact absurd H (by simp)
   ·rw [if_neg c9] at H
    have c9b0:decide (x16_1 < (t102.length:Int)) = false:=decide_eq_false c9
    clear c9
    obtain rfl:=Option.some.inj H
    go_wp2
    go_ret
    exact ⟨_,by first|rfl|(simp [errW_none,errW_some] <;> rfl)|(simp [*,errW_none,errW_some] <;> rfl),rq (Kd.R_mono HO_7.out (fun _ hk=>trivial)),bg HB.out GE101 GE101⟩
def q13.l0:Nat → Int → List Int → Int → Int → Option (Int)
 | 0,_,_,_,_=>none
 | k + 1,x3,x6,x7,x8=>if x8 < x7 then (if 0 ≤ x8 then (if x8 < (x6.length:Int) then (if (rd x6 x8) ≥ 0 then (if (rd x6 x8) < 32 then (if 0 ≤ (IntKind.u64.wrap (rd x6 x8)) then (q13.l0 k (Go.bits .or .u32 x3 (shl .u32 1 (IntKind.u64.wrap (rd x6 x8)))) x6 x7 (wrap64 (x8 + 1))) else (none)) else (q13.l0 k x3 x6 x7 (wrap64 (x8 + 1)))) else (q13.l0 k x3 x6 x7 (wrap64 (x8 + 1)))) else (none)) else (none)) else (some x3)
def q13.f (k:Nat) (l0:List Int):Option (Int):=q13.l0 k 0 l0 (l0.length:Int) 0
set_option maxHeartbeats 8000000 in
set_option maxRecDepth 100000 in
theorem q13.calls (k:Nat) (A0:Option Addr) (c0:Nat) (l0:List Int) (r:Int) (w:World) (hr0:Kd.C (Kd.int .i64) w A0 l0.length l0) (hc0:l0.length ≤ c0) (h:q13.f k l0 = some r) :
  Calls Try.prog 26 #[.slice A0 l0.length c0] w fun e w'=>e = .returned (.int .u32 r) ∧ Drawn0 w w':=by
 have HR0:=Aside0.mk hr0
 have HC0:=Aside0.mk hc0
 clear hr0 hc0
 have H:(q13.l0 k 0 l0 (l0.length:Int) 0) = some r:=h
 clear h
 have H':=Aside0.mk H
 clear H
 go_enter Try.func26,Try.ntmps26
 go_wp2
 go_loopg [3,8] k (fun kq v3 v8 w'=>∃ (x3_1:Int) (x8_1:Int),v3 = .int .u32 x3_1 ∧ v8 = .int .i64 x8_1 ∧ Aside0 (q13.l0 kq x3_1 l0 (l0.length:Int) x8_1 = some r) ∧ Aside0 (kq ≤ k) ∧ Drawn0 w w')
 case atStart=>exact ⟨(0),(0),oE,oE,H',⟨Nat.le_refl _⟩,by repeat (first|exact Drawn0.refl _|apply Drawn0.step)⟩
 case round =>
  clear H'
  obtain ⟨x3_1,x8_1,rfl,rfl,HA,HK1,⟨m1,rfl⟩⟩:=hrel
  cases gk with
  | zero=>exact absurd HA.out (by simp [q13.l0])
  | succ k1 =>
   have H:=HA.out
   clear HA
   simp only [q13.l0] at H
   by_cases c2:x8_1 < (l0.length:Int)
   ·rw [if_pos c2] at H
    have c2b0:decide (x8_1 < (l0.length:Int)) = true:=decide_eq_true c2
    clear c2
    by_cases c3:0 ≤ x8_1
    ·rw [if_pos c3] at H
     have c3b0:decide (0 ≤ x8_1) = true:=decide_eq_true c3
     clear c3
     by_cases c4:x8_1 < (l0.length:Int)
     ·rw [if_pos c4] at H
      have c4b0:decide (x8_1 < (l0.length:Int)) = true:=decide_eq_true c4
      clear c4
      by_cases c5:(rd l0 x8_1) ≥ 0
      ·rw [if_pos c5] at H
       have c5b0:decide (0 ≤ (rd l0 x8_1)) = true:=decide_eq_true c5
       clear c5
       by_cases c6:(rd l0 x8_1) < 32
       ·rw [if_pos c6] at H
        have c6b0:decide ((rd l0 x8_1) < 32) = true:=decide_eq_true c6
        clear c6
        obtain ⟨ji7,hji7⟩:∃ j_:Int,(IntKind.u64.wrap (rd l0 x8_1)) = j_:=⟨_,rfl⟩
        replace H:(if 0 ≤ (ji7) then (q13.l0 k1 (Go.bits .or .u32 x3_1 (shl .u32 1 (ji7))) l0 (l0.length:Int) (wrap64 (x8_1 + 1))) else (none)) = some r:=by first|(rw [hji7] at H;exact H)|(simp only [hji7] at H ⊢;exact H)
        by_cases c8:0 ≤ (ji7)
        ·rw [if_pos c8] at H
         have c8b0:=eq_true c8
         have c8b1:decide (0 ≤ (ji7)) = true:=decide_eq_true c8
         clear c8
         obtain ⟨ji9,hji9⟩:∃ j_:Int,(shl .u32 1 (ji7)) = j_:=⟨_,rfl⟩
         replace H:(q13.l0 k1 (Go.bits .or .u32 x3_1 (ji9)) l0 (l0.length:Int) (wrap64 (x8_1 + 1))) = some r:=by first|(rw [hji9] at H;exact H)|(simp only [hji9] at H ⊢;exact H)
         have hji9_:(IntKind.u32.wrap (1 * 2 ^ min (ji7).toNat 32)) = ji9:=hji9
         have hji9z:(ji7) ≤ 32 → (IntKind.u32.wrap (1 * 2 ^ (ji7).toNat)) = ji9:=shl_small hji9
         have hji9u:(IntKind.u32.wrap (2 ^ min (ji7).toNat 32)) = ji9:=by have h_:=hji9_;rw [Int.one_mul] at h_;exact h_
         have hji9v:(ji7) ≤ 32 → (IntKind.u32.wrap (2 ^ (ji7).toNat)) = ji9:=fun hle_=>by have h_:=hji9z hle_;rw [Int.one_mul] at h_;exact h_
         have H':=Aside0.mk H
         clear H
         have p101:0 ≤ (x8_1:Int):=oA
         have q101:x8_1 < (l0.length:Int):=oA
         obtain ⟨ad101,e101,hx101_0⟩:=Kd.at_int HR0.out x8_1 p101 q101
         cases e101
         replace p101:=eq_true p101
         replace q101:=eq_true q101
         go_wp2
         go_roundg k1
         case measure=>have:=HK1.out;omega
         case rel=>exact ⟨(Go.bits .or .u32 x3_1 (ji9)),(wrap64 (x8_1 + 1)),(by first|rfl|(simp;done)|(simp only [← hji9] <;> (first|rfl|simp))|(simp [*];done)),oE,(by first|exact H'|exact ⟨by simp only [hji7,hji9];exact H'.out⟩),⟨by have:=HK1.out;omega⟩,by repeat (first|exact Drawn0.refl _|apply Drawn0.step)⟩
        ·rw [if_neg c8] at H
         exact absurd H (by simp)
       ·rw [if_neg c6] at H
        have c6b0:decide ((rd l0 x8_1) < 32) = false:=decide_eq_false c6
        clear c6
        have H':=Aside0.mk H
        clear H
        have p101:0 ≤ (x8_1:Int):=oA
        have q101:x8_1 < (l0.length:Int):=oA
        obtain ⟨ad101,e101,hx101_0⟩:=Kd.at_int HR0.out x8_1 p101 q101
        cases e101
        replace p101:=eq_true p101
        replace q101:=eq_true q101
        go_wp2
        go_roundg k1
        case measure=>have:=HK1.out;omega
        case rel=>exact ⟨(x3_1),(wrap64 (x8_1 + 1)),oE,oE,H',⟨by have:=HK1.out;omega⟩,by repeat (first|exact Drawn0.refl _|apply Drawn0.step)⟩
      ·rw [if_neg c5] at H
       have c5b0:decide (0 ≤ (rd l0 x8_1)) = false:=decide_eq_false c5
       clear c5
       have H':=Aside0.mk H
       clear H
       have p101:0 ≤ (x8_1:Int):=oA
       have q101:x8_1 < (l0.length:Int):=oA
       obtain ⟨ad101,e101,hx101_0⟩:=Kd.at_int HR0.out x8_1 p101 q101
       cases e101
       replace p101:=eq_true p101
       replace q101:=eq_true q101
       go_wp2
       go_roundg k1
       case measure=>have:=HK1.out;omega
       case rel=>exact ⟨(x3_1),(wrap64 (x8_1 + 1)),oE,oE,H',⟨by have:=HK1.out;omega⟩,by repeat (first|exact Drawn0.refl _|apply Drawn0.step)⟩
     ·rw [if_neg c4] at H
      exact absurd H (by simp)
    ·rw [if_neg c3] at H
     exact absurd H (by simp)
   ·rw [if_neg c2] at H
    have c2b0:decide (x8_1 < (l0.length:Int)) = false:=decide_eq_false c2
    clear c2
    obtain rfl:=Option.some.inj H
    go_wp2
    go_ret
    exact ⟨by first|rfl|(simp;done)|(simp [*];done),by repeat (first|exact Drawn0.refl _|apply Drawn0.step)⟩
end Go.Proofs.Ytnomeokicfpidaa.Q
