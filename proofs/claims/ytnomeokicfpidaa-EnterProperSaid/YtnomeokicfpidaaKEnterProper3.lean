-- merged and slimmed by slim.py (a program of this repo)
import Derived.Test.YtnomeokicfpidaaKEnterProper2
namespace Go.Proofs.Ytnomeokicfpidaa.Q
open Go.RowKit Go.Proofs.YtnomeokicfpidaaW.PrintWords Go.Proofs.YtnomeokicfpidaaW.PrintLast Go.Proofs.YtnomeokicfpidaaW.PrintMore
attribute [local go_sem] max2_int min2_int max_two min_two max_three min_three max_four min_four
set_option linter.unusedVariables false
set_option linter.unusedSimpArgs false
mutual
def q7.l0:Nat → List Int → Int → Int → List Int → List Int → List Int → Option (Int)
 | 0,_,_,_,_,_,_=>none
 | k + 1,x1,x5,x6,x7,x102000,x102001=>if (x7.length:Int) > 0 then (if 0 < (x7.length:Int) then (if 1 ≤ (x7.length:Int) then ((q3.f k x102000 x102001 (rd x7 0)).bind fun t109=>(q7.l1 k x1 x5 x6 (x7.drop (1:Int).toNat) (rd x7 0) ([]:List Int) t109 (t109.length:Int) 0 x102000 x102001)) else (none)) else (none)) else (some x5)
def q7.l1:Nat → List Int → Int → Int → List Int → Int → List Int → List Int → Int → Int → List Int → List Int → Option (Int)
 | 0,_,_,_,_,_,_,_,_,_,_,_=>none
 | k + 1,x1,x5,x6,x7,x8,x9,x27,x28,x29,x102000,x102001=>if x29 < x28 then (if 0 ≤ x29 then (if x29 < (x27.length:Int) then (if 0 ≤ (rd x27 x29) then (if (rd x27 x29) < (x102000.length:Int) then (if (rd x102000 (rd x27 x29)) ≤ 2 then (if x9.length < 17592186044416 then (q7.l1 k x1 x5 x6 x7 x8 (x9 ++ [rd x27 x29]) x27 x28 (wrap64 (x29 + 1)) x102000 x102001) else (none)) else (q7.l1 k x1 x5 x6 x7 x8 x9 x27 x28 (wrap64 (x29 + 1)) x102000 x102001)) else (none)) else (none)) else (none)) else (none)) else (if x8 < 0 then (q7.j2 k x1 x5 x6 x7 x9 (decide ((x9.length:Int) > 1)) x102000 x102001) else (if 0 ≤ x8 then (if x8 < (x102000.length:Int) then (if (rd x102000 x8) = 1 then (q7.j2 k x1 x5 x6 x7 x9 (decide ((x9.length:Int) > 1)) x102000 x102001) else (q7.j2 k x1 x5 x6 x7 x9 false x102000 x102001)) else (none)) else (none)))
def q7.j2:Nat → List Int → Int → Int → List Int → List Int → Bool → List Int → List Int → Option (Int)
 | 0,_,_,_,_,_,_,_,_=>none
 | k + 1,x1,x5,x6,x7,x9,x58,x102000,x102001=>if x58 = true then (if x6 < (x1.length:Int) then (if 0 ≤ x6 then ((q11.f (rd x1 x6) (x9.length:Int)).bind fun t119=>(if 0 ≤ t119 then (if t119 ≤ (wrap64 (t119 + 1)) then (if (wrap64 (t119 + 1)) ≤ (x9.length:Int) then (q7.j3 k x1 x5 (wrap64 (x6 + 1)) x7 ((x9.take ((wrap64 (t119 + 1)):Int).toNat).drop (t119:Int).toNat) x102000 x102001) else (none)) else (none)) else (none))) else (none)) else ((q11.f 0 (x9.length:Int)).bind fun t123=>(if 0 ≤ t123 then (if t123 ≤ (wrap64 (t123 + 1)) then (if (wrap64 (t123 + 1)) ≤ (x9.length:Int) then (q7.j3 k x1 x5 (wrap64 (x6 + 1)) x7 ((x9.take ((wrap64 (t123 + 1)):Int).toNat).drop (t123:Int).toNat) x102000 x102001) else (none)) else (none)) else (none)))) else (q7.j3 k x1 x5 x6 x7 x9 x102000 x102001)
def q7.j3:Nat → List Int → Int → Int → List Int → List Int → List Int → List Int → Option (Int)
 | 0,_,_,_,_,_,_,_=>none
 | k + 1,x1,x5,x6,x7,x9,x102000,x102001=>q7.l2 k x1 x5 x6 x7 x9 x9 (x9.length:Int) 0 x102000 x102001
def q7.l2:Nat → List Int → Int → Int → List Int → List Int → List Int → Int → Int → List Int → List Int → Option (Int)
 | 0,_,_,_,_,_,_,_,_,_,_=>none
 | k + 1,x1,x5,x6,x7,x9,x78,x79,x80,x102000,x102001=>if x80 < x79 then (if 0 ≤ x80 then (if x80 < (x78.length:Int) then (if 0 ≤ (IntKind.u64.wrap (rd x78 x80)) then (q7.l2 k x1 (Go.bits .or .u32 x5 (shl .u32 1 (IntKind.u64.wrap (rd x78 x80)))) x6 x7 x9 x78 x79 (wrap64 (x80 + 1)) x102000 x102001) else (none)) else (none)) else (none)) else (if x7.length + x9.length < 17592186044416 then (q7.l0 k x1 x5 x6 (x7 ++ x9) x102000 x102001) else (none))
end
def q7.f (k:Nat) (l0_0:List Int) (l0_1:List Int) (l1:List Int):Option (Int):=q7.l0 k l1 0 0 (([(-1)]:List Int)) l0_0 l0_1
set_option maxHeartbeats 8000000 in
set_option maxRecDepth 100000 in
theorem q7.calls (k:Nat) (A0_0:Option Addr) (c0_0:Nat) (l0_0:List Int) (A0_1:Option Addr) (c0_1:Nat) (l0_1:List Int) (A1:Option Addr) (c1:Nat) (l1:List Int) (r:Int) (w:World) (hr0_0:Kd.C (Kd.int .i64) w A0_0 l0_0.length l0_0) (hc0_0:l0_0.length ≤ c0_0) (hr0_1:Kd.C (Kd.int .i64) w A0_1 l0_1.length l0_1) (hc0_1:l0_1.length ≤ c0_1) (hr1:Kd.C (Kd.int .i64) w A1 l1.length l1) (hc1:l1.length ≤ c1) (h:q7.f k l0_0 l0_1 l1 = some r) :
  Calls Try.prog 18 #[.agg #[.slice A0_0 l0_0.length c0_0,.slice A0_1 l0_1.length c0_1],.slice A1 l1.length c1] w fun e w'=>e = .returned (.int .u32 r) ∧ Below w.heap.size w w':=by
 have hu25:=Try.underlying25
 have HR0_0:=Aside0.mk hr0_0
 have HC0_0:=Aside0.mk hc0_0
 clear hr0_0 hc0_0
 have HR0_1:=Aside0.mk hr0_1
 have HC0_1:=Aside0.mk hc0_1
 clear hr0_1 hc0_1
 have HR1:=Aside0.mk hr1
 have HC1:=Aside0.mk hc1
 clear hr1 hc1
 have HB:=zk (Below.refl w.heap.size w)
 have H:(q7.l0 k l1 0 0 (([(-1)]:List Int)) l0_0 l0_1) = some r:=h
 clear h
 obtain ⟨y102,hy102⟩:∃ y_:List Int,y_ = (([(-1)]:List Int)):=⟨_,rfl⟩
 replace H:(q7.l0 k l1 0 0 y102 l0_0 l0_1) = some r:=by first|(rw [hy102];with_reducible exact H)|(have H2_:=(Option.bind_some _ _).symm.trans H;rw [hy102];with_reducible exact H2_)|(have H2_:=(Option.bind_some _ _).symm.trans H;with_reducible exact H2_)|with_reducible exact H|(rw [hy102];exact H)|exact H
 have Ny102:=Aside0.mk hy102
 clear hy102
 have H':=Aside0.mk H
 clear H
 go_enter Try.func18,Try.ntmps18
 go_wp2_with (first|((with_reducible refine gate_dst (N:=2) rfl ?_);(try (refine gate_guard (by rfl) ?_;dsimp only));refine box_event ?hg (N:=2) ?hd (cs:=#[.slice A0_0 l0_0.length c0_0,.slice A0_1 l0_1.length c0_1]) (t:=25) ?hr ?_;(case hd=>rfl);(case hg=>rfl);(case hr=>first|(go_simp;done)|(go_simp;rfl));intro gb101 hg w3 hbox hb;have n0_:=zk (below_step (bq HB.out) hb);have n1_:=zk (hbox);have n2_:=zk ((by rw [hg];exact (below_size (bq HB.out)):w.heap.size ≤ gb101));have n3_:=zk ((by rw [hg];exact (below_size (bq HB.out)):w.heap.size ≤ gb101));clear HB;have HB:=n0_;have BK101:=n1_;have GW101:=n2_;have GE101:=n3_;clear n0_ n1_ n2_ n3_;clear hb hbox hg)|((with_reducible refine gate_dst (N:=16) rfl ?_);(try (refine gate_guard (by rfl) ?_;dsimp only));refine Kd.R_lit (Kd.int .i64) _ 3 ?hg (N:=16) ?hd (xs:=([(-1)]:List Int)) (inner:=[.int .i64 (-1)]) (ok:=fun _=>True) (okp:=fun _=>True) ?hr ?hp (fun _ hk=>hk) trivial (Below.refl _ _) (Nat.le_refl _) (by simp) ?_;(case hd=>rfl);(case hg=>rfl);(case hr=>first|(go_simp;done)|(go_simp;rfl));(case hp=>exact (Reps.one (show Kd.M (Kd.int .i64) _ _ _ (-1) [.int .i64 (-1)] from rfl) (Reps.none _ _)));intro v103 w4 ho5 hb hg_ hnew_;clear hg_ hnew_;(first|rw [← Ny102.out] at ho5|(simp only [Int.reduceToNat] at ho5;rw [← Ny102.out] at ho5));have n0_:=zk (Kd.R_lower ho5 (below_size (bg HB.out GE101 GE101)));have n1_:=zk (blk_below (g:=gb101) (o:=.cells #[.slice A0_0 l0_0.length c0_0,.slice A0_1 l0_1.length c0_1] 25 (0,0)) (hq BK101.out) hb);have n2_:=zk (below_step (bg HB.out GE101 GE101) hb);clear BK101;clear HB;have HO104:=n0_;have BK101:=n1_;have HB:=n2_;clear n0_ n1_ n2_;clear hb ho5))
 go_loopg [5,6,7] k (fun kq v5 v6 v7 w'=>∃ (x5_1:Int) (x6_1:Int) (x7_1:List Int),v5 = .int .u32 x5_1 ∧ v6 = .int .i64 x6_1 ∧ Aside0 (q7.l0 kq l1 x5_1 x6_1 x7_1 l0_0 l0_1 = some r) ∧ Aside0 (kq ≤ k) ∧ Aside0 (Kd.Q (Kd.int .i64) 3 w' w.heap.size (fun _=>True) v7 x7_1) ∧ Aside0 (w'.heap[gb101]? = some (.cells #[(.slice A0_0 l0_0.length c0_0),(.slice A0_1 l0_1.length c0_1)] 25 (0,0))) ∧ Aside0 (Below w.heap.size w w'))
 case atStart=>exact ⟨(0),(0),(y102),oE,oE,H',⟨Nat.le_refl _⟩,⟨Kd.Q_of_R (rq HO104.out)⟩,⟨hq BK101.out⟩,⟨bg HB.out GE101 GE101⟩⟩
 case round =>
  clear H'
  try clear c1
  try clear p2
  obtain ⟨x5_1,x6_1,x7_1,rfl,rfl,HA,HK1,HO_7,BK101,HB⟩:=hrel
  cases gk with
  | zero=>exact absurd HA.out (by simp [q7.l0])
  | succ k1 =>
   have H:=HA.out
   clear HA
   simp only [q7.l0] at H
   by_cases c6:(x7_1.length:Int) > 0
   ·rw [if_pos c6] at H
    have c6b0:decide (0 < (x7_1.length:Int)) = true:=decide_eq_true c6
    have c6b1:decide (0 < x7_1.length) = true:=decide_eq_true (by omega)
    clear c6
    by_cases c7:0 < (x7_1.length:Int)
    ·rw [if_pos c7] at H
     have c7b0:decide (0 < (x7_1.length:Int)) = true:=decide_eq_true c7
     have c7b1:decide (0 < x7_1.length) = true:=decide_eq_true (by omega)
     clear c7
     by_cases c8:1 ≤ (x7_1.length:Int)
     ·rw [if_pos c8] at H
      have c8b0:=eq_true c8
      have c8b1:decide (1 ≤ (x7_1.length:Int)) = true:=decide_eq_true c8
      clear c8
      obtain ⟨y106,hy106⟩:∃ y_:List Int,y_ = (x7_1.drop (1:Int).toNat):=⟨_,rfl⟩
      replace H:((q3.f k1 l0_0 l0_1 (rd x7_1 0)).bind fun t109=>(q7.l1 k1 l1 x5_1 x6_1 y106 (rd x7_1 0) ([]:List Int) t109 (t109.length:Int) 0 l0_0 l0_1)) = some r:=by first|(rw [hy106];with_reducible exact H)|(have H2_:=(Option.bind_some _ _).symm.trans H;rw [hy106];with_reducible exact H2_)|(have H2_:=(Option.bind_some _ _).symm.trans H;with_reducible exact H2_)|with_reducible exact H|(rw [hy106];exact H)|exact H
      have Ny106:=Aside0.mk hy106
      clear hy106
      replace H:=Option.bind_eq_some_iff.mp H
      obtain ⟨t109,A90,H⟩:=H
      replace H:(q7.l1 k1 l1 x5_1 x6_1 y106 (rd x7_1 0) ([]:List Int) t109 (t109.length:Int) 0 l0_0 l0_1) = some r:=H
      have A9:=Aside0.mk A90
      clear A90
      have H':=Aside0.mk H
      clear H
      obtain ⟨Ao10,co10,eo10,_⟩:=Kd.Q_slice HO_7.out
      subst eo10
      have p105:0 ≤ (0:Int):=(by omega)
      have q105:0 < (x7_1.length:Int):=oA
      obtain ⟨ad105,e105,hx105_0⟩:=Kd.at_int (Kd.Q_reads' HO_7.out).2.2 0 p105 q105
      cases e105
      have qi105:(0 < x7_1.length) = True:=eq_true (by omega)
      (try rw [show ((0:Int)).toNat = 0 from rfl] at hx105_0)
      (try rw [Addr.add_zero'] at hx105_0)
      replace p105:=eq_true p105
      replace q105:=eq_true q105
      have q11:(1:Int) ≤ ((x7_1.length:Int):Int):=oA
      obtain ⟨i011,hi011,_,hsz11,_⟩:=info_parts info3
      have hcut11:=cut_from (P:=Try.prog) 22 3 .i64 Try.underlying22 hi011 1 hsz11 (some ad105) x7_1.length co10 1 (by omega) q11
      have hr11:=Kd.Q_drop (k:=(1:Int).toNat) HO_7.out (by omega)
      obtain ⟨A11,hA11⟩:∃ A1,A1 = (if co10 = (1:Int).toNat then (some ad105) else ((some ad105):Option Addr).map (·.add ((1:Int).toNat * 1))):=⟨_,rfl⟩
      obtain ⟨c11,hc11⟩:∃ c1,c1 = co10 - (1:Int).toNat:=⟨_,rfl⟩
      have hy11:y106.length = x7_1.length - (1:Int).toNat:=(by rw [Ny106.out,List.length_drop])
      rw [← Ny106.out] at hr11
      rw [← hy11,← hA11,← hc11] at hcut11
      replace hr11:Kd.Q (Kd.int .i64) 3 wr w.heap.size (fun _=>True) (.slice A11 y106.length c11) y106:=(by rw [hA11,hc11,hy11];exact hr11)
      have HE11:Aside0 ((Value.slice A11 y106.length c11).ownBlock = (.slice (some ad105) x7_1.length co10:Value).ownBlock):=⟨by rw [hA11];split <;> (cases ((some ad105):Option Addr) <;> rfl)⟩
      clear hy11 hi011 hsz11 HO_7 hA11 hc11
      have HO108:=Aside0.mk hr11
      clear hr11
      replace q11:=eq_true q11
      have hcz12_0:wr.cell? ⟨gb101,0,none⟩ = some (.slice A0_0 l0_0.length c0_0):=(blk_cell BK101.out 0).trans rfl
      have hcz12_1:wr.cell? ⟨gb101,1,none⟩ = some (.slice A0_1 l0_1.length c0_1):=(blk_cell BK101.out 1).trans rfl
      have hfz12_0:=blk_frozen BK101.out 0
      have hfz12_1:=blk_frozen BK101.out 1
      go_wp2_with (first|((with_reducible refine gate_callee (f:=46) rfl ?_);refine goesL_ (some 27) rfl rfl Try.func46 (by kernel_rfl) rfl #[.agg #[.slice A0_0 l0_0.length c0_0,.slice A0_1 l0_1.length c0_1],.int .i64 (rd x7_1 0)] rfl oF ?_;(with_reducible refine (q3.calls k1 _ _ l0_0 _ _ l0_1 (rd x7_1 0) t109 _ ?side1 ?side2 ?side3 ?side4 A9.out).mono ?_);(case side1=>exact cq (Kd.C_below HR0_0.out HB.out));(case side2=>exact HC0_0.out);(case side3=>exact cq (Kd.C_below HR0_1.out HB.out));(case side4=>exact HC0_1.out);rintro e w13 ⟨v110,rfl,ho0,hb⟩;refine ⟨_,rfl,?_⟩;have n0_:=zk (Kd.Q_elder' (by (with_reducible repeat (first|apply Kd.Q_alloc|apply Kd.Q_drewN|apply Kd.Q_drew));exact HO108.out) (Kd.R_base ho0) hb);have n1_:=zk (Kd.R_lower (Kd.R_new' ho0 (Kd.Q_lt (by (with_reducible repeat (first|apply Kd.Q_alloc|apply Kd.Q_drewN|apply Kd.Q_drew));exact HO108.out))) (below_size (bg HB.out GE101 GE101)));have n2_:=zk (blk_below (g:=gb101) (o:=.cells #[.slice A0_0 l0_0.length c0_0,.slice A0_1 l0_1.length c0_1] 25 (0,0)) (hq BK101.out) hb);have n3_:=zk (below_step (bg HB.out GE101 GE101) hb);clear HO108;clear BK101;clear HB;have HO108:=n0_;have HO111:=n1_;have BK101:=n2_;have HB:=n3_;clear n0_ n1_ n2_ n3_;(try clear hb);(try clear hb2);(try clear hk);(try clear hi);(try clear ho0);obtain ⟨Ao14,co14,eo14⟩:=Kd.R_slice HO111.out;subst eo14))
      go_loopg [9,29] k1 (fun kq v9 v29 w'=>∃ (x9_2:List Int) (x29_2:Int),v29 = .int .i64 x29_2 ∧ Aside0 (q7.l1 kq l1 x5_1 x6_1 y106 (rd x7_1 0) x9_2 t109 (t109.length:Int) x29_2 l0_0 l0_1 = some r) ∧ Aside0 (kq ≤ k1) ∧ Aside0 (Kd.Q (Kd.int .i64) 3 w' w.heap.size (fun k_=>some k_ ≠ (v9:Value).ownBlock ∧ some k_ ≠ ((.slice Ao14 t109.length co14):Value).ownBlock) (.slice A11 y106.length c11) y106) ∧ Aside0 (Kd.Q (Kd.int .i64) 3 w' w.heap.size (fun k_=>some k_ ≠ ((.slice A11 y106.length c11):Value).ownBlock ∧ some k_ ≠ ((.slice Ao14 t109.length co14):Value).ownBlock) v9 x9_2) ∧ Aside0 (Kd.R (Kd.int .i64) 3 w' w.heap.size (fun k_=>some k_ ≠ ((.slice A11 y106.length c11):Value).ownBlock ∧ some k_ ≠ (v9:Value).ownBlock) (.slice Ao14 t109.length co14) t109) ∧ Aside0 (w'.heap[gb101]? = some (.cells #[(.slice A0_0 l0_0.length c0_0),(.slice A0_1 l0_1.length c0_1)] 25 (0,0))) ∧ Aside0 (Below w.heap.size w w'))
      case atStart=>exact ⟨(([]:List Int)),(0),oE,H',⟨Nat.le_refl _⟩,⟨by (with_reducible repeat (first|apply Kd.Q_alloc|apply Kd.Q_drewN|apply Kd.Q_drew));exact Kd.Q_mono HO108.out (fun _ hk=>⟨(by simp [Value.ownBlock]),hk.2⟩)⟩,⟨Kd.Q_of_R (by first|exact Kd.R_nil _ _ _ _ _|exact Kd.N_nil _ _ _ _ _|exact Kd.V_nil _ _ _ _ _|exact Kd.Q_nil _ _ _ _ _|exact Kd.S_nil _ _ _ _ _)⟩,⟨rq (Kd.R_mono HO111.out (fun _ hk=>⟨hk.2,(by simp [Value.ownBlock])⟩))⟩,⟨hq BK101.out⟩,⟨bg HB.out GE101 GE101⟩⟩
      case round =>
       clear H'
       try clear c1
       try clear p1
       try clear q1
       try clear hx1
       try clear qi1
       try clear p2
       try clear c4
       try clear c6
       try clear c6b0
       try clear c6b1
       try clear c7
       try clear c7b0
       try clear c7b1
       try clear c8
       try clear c8b0
       try clear c8b1
       try clear p10
       try clear q10
       try clear hx10
       try clear qi10
       try clear c11
       try clear q11
       try clear hcz12_0
       try clear hcz12_1
       try clear hfz12_0
       try clear hfz12_1
       try clear hx105_0
       try clear p105
       try clear p2
       try clear q105
       try clear q11
       obtain ⟨x9_2,x29_2,rfl,HA,HK2,HO_7,HO_9,HO_27,BK101,HB⟩:=hrel
       cases gk with
       | zero=>exact absurd HA.out (by simp [q7.l1])
       | succ k2 =>
        have H:=HA.out
        clear HA
        simp only [q7.l1] at H
        by_cases c15:x29_2 < (t109.length:Int)
        ·rw [if_pos c15] at H
         have c15b0:decide (x29_2 < (t109.length:Int)) = true:=decide_eq_true c15
         clear c15
         by_cases c16:0 ≤ x29_2
         ·rw [if_pos c16] at H
          have c16b0:decide (0 ≤ x29_2) = true:=decide_eq_true c16
          clear c16
          by_cases c17:x29_2 < (t109.length:Int)
          ·rw [if_pos c17] at H
           have c17b0:decide (x29_2 < (t109.length:Int)) = true:=decide_eq_true c17
           clear c17
           by_cases c18:0 ≤ (rd t109 x29_2)
           ·rw [if_pos c18] at H
            have c18b0:decide (0 ≤ (rd t109 x29_2)) = true:=decide_eq_true c18
            clear c18
            by_cases c19:(rd t109 x29_2) < (l0_0.length:Int)
            ·rw [if_pos c19] at H
             have c19b0:decide ((rd t109 x29_2) < (l0_0.length:Int)) = true:=decide_eq_true c19
             clear c19
             by_cases c20:(rd l0_0 (rd t109 x29_2)) ≤ 2
             ·rw [if_pos c20] at H
              have c20b0:decide ((rd l0_0 (rd t109 x29_2)) ≤ 2) = true:=decide_eq_true c20
              clear c20
              by_cases c21:x9_2.length < 17592186044416
              ·rw [if_pos c21] at H
               have LMc21:=Aside0.mk c21
               clear c21
               obtain ⟨y114,hy114⟩:∃ y_:List Int,y_ = (x9_2 ++ [rd t109 x29_2]):=⟨_,rfl⟩
               replace H:(q7.l1 k2 l1 x5_1 x6_1 y106 (rd x7_1 0) y114 t109 (t109.length:Int) (wrap64 (x29_2 + 1)) l0_0 l0_1) = some r:=by first|(rw [hy114];with_reducible exact H)|(have H2_:=(Option.bind_some _ _).symm.trans H;rw [hy114];with_reducible exact H2_)|(have H2_:=(Option.bind_some _ _).symm.trans H;with_reducible exact H2_)|with_reducible exact H|(rw [hy114];exact H)|exact H
               have Ny114:=Aside0.mk hy114
               clear hy114
               have H':=Aside0.mk H
               clear H
               have p112:0 ≤ (x29_2:Int):=oA
               have q112:x29_2 < (t109.length:Int):=oA
               obtain ⟨ad112,e112,hx112_0⟩:=Kd.at_int (Kd.R_reads' HO_27.out).2.2 x29_2 p112 q112
               cases e112
               replace p112:=eq_true p112
               replace q112:=eq_true q112
               have hcz22_0:wr.cell? ⟨gb101,0,none⟩ = some (.slice A0_0 l0_0.length c0_0):=(blk_cell BK101.out 0).trans rfl
               have hcz22_1:wr.cell? ⟨gb101,1,none⟩ = some (.slice A0_1 l0_1.length c0_1):=(blk_cell BK101.out 1).trans rfl
               have hfz22_0:=blk_frozen BK101.out 0
               have hfz22_1:=blk_frozen BK101.out 1
               have p113:0 ≤ ((rd t109 x29_2):Int):=oA
               have q113:(rd t109 x29_2) < (l0_0.length:Int):=oA
               obtain ⟨ad113,e113,hx113_0⟩:=Kd.at_int HR0_0.out (rd t109 x29_2) p113 q113
               cases e113
               replace hx113_0:=(HB.out.cell (World.block_lt_of_cell? w _ hx113_0)).trans hx113_0
               replace p113:=eq_true p113
               replace q113:=eq_true q113
               go_wp2_with (first|((with_reducible refine gate_builtin (b:=.append) (xs:=#[.tmp 39,.tmp 41]) rfl ?_);(try (refine gate_guard (by rfl) ?_;dsimp only));at_builtin;refine Kd.Q_append (Kd.int .i64) (w0:=w) w.heap.size rfl (.tmp 39) (.tmp 41) 22 3 (.int .i64 0) 8 rfl Try.underlying22 info3 rfl (by decide) (by omega) u9 x9_2 (rd t109 x29_2) [.int .i64 (rd t109 x29_2)] (fun k_=>some k_ ≠ (.slice A11 y106.length c11:Value).ownBlock ∧ some k_ ≠ (.slice (some ad112) t109.length co14:Value).ownBlock) (fun _=>False) rfl rfl ?aP (fun _ hk=>hk.elim) ?aF ?aO ?aB ?aS ?aL ?_;(case aP=>exact rfl);(case aB=>exact (bg HB.out GE101 GE101));(case aF=>exact (fun k_ hk=>⟨Kd.fresh' (Kd.Q_lt (by (with_reducible repeat (first|apply Kd.Q_alloc|apply Kd.Q_drewN|apply Kd.Q_drew));exact HO_7.out)) k_ hk,Kd.fresh' (Kd.R_lt (rq HO_27.out)) k_ hk⟩));(case aO=>exact (by (with_reducible repeat (first|apply Kd.Q_alloc|apply Kd.Q_drewN|apply Kd.Q_drew));exact HO_9.out));(case aS=>exact (below_size (bg HB.out GE101 GE101)));(case aL=>have:=LMc21.out;omega);intro v115 w23 ho hb hg hat;rw [← Ny114.out] at ho;have n0_:=zk (Kd.Q_after (ok:=(fun k_=>some k_ ≠ (.slice (some ad112) t109.length co14:Value).ownBlock)) (by (with_reducible repeat (first|apply Kd.Q_alloc|apply Kd.Q_drewN|apply Kd.Q_drew));exact Kd.Q_mono HO_7.out (fun _ hk=>⟨hk.2,hk.1⟩)) hg hat);have n1_:=zk (Kd.R_after (ok:=(fun k_=>some k_ ≠ (.slice A11 y106.length c11:Value).ownBlock)) (rq HO_27.out) hg hat);have n2_:=zk (blk_grown (g:=gb101) (o:=.cells #[.slice (some ad113) l0_0.length c0_0,.slice A0_1 l0_1.length c0_1] 25 (0,0)) (hq BK101.out) hg (Kd.Q_ne HO_9.out BK101.out (by decide)));have n3_:=zk (hb);have n4_:=zk (ho);clear HO_7;clear HO_27;clear BK101;clear HB;clear HO_9;have HO_7:=n0_;have HO_27:=n1_;have BK101:=n2_;have HB:=n3_;have HO116:=n4_;clear n0_ n1_ n2_ n3_ n4_;clear ho hb hg hat))
               go_roundg k2
               case measure=>have:=HK1.out;have:=HK2.out;omega
               case rel=>exact ⟨(y114),(wrap64 (x29_2 + 1)),oE,H',⟨by have:=HK1.out;have:=HK2.out;omega⟩,⟨by (with_reducible repeat (first|apply Kd.Q_alloc|apply Kd.Q_drewN|apply Kd.Q_drew));exact Kd.Q_mono HO_7.out (fun _ hk=>⟨hk.2,hk.1⟩)⟩,⟨by (with_reducible repeat (first|apply Kd.Q_alloc|apply Kd.Q_drewN|apply Kd.Q_drew));exact HO116.out⟩,⟨rq HO_27.out⟩,⟨hq BK101.out⟩,⟨bg HB.out GE101 GE101⟩⟩
              ·rw [if_neg c21] at H
               exact absurd H (by simp)
             ·rw [if_neg c20] at H
              have c20b0:decide ((rd l0_0 (rd t109 x29_2)) ≤ 2) = false:=decide_eq_false c20
              clear c20
              have H':=Aside0.mk H
              clear H
              have p112:0 ≤ (x29_2:Int):=oA
              have q112:x29_2 < (t109.length:Int):=oA
              obtain ⟨ad112,e112,hx112_0⟩:=Kd.at_int (Kd.R_reads' HO_27.out).2.2 x29_2 p112 q112
              cases e112
              replace p112:=eq_true p112
              replace q112:=eq_true q112
              have hcz24_0:wr.cell? ⟨gb101,0,none⟩ = some (.slice A0_0 l0_0.length c0_0):=(blk_cell BK101.out 0).trans rfl
              have hcz24_1:wr.cell? ⟨gb101,1,none⟩ = some (.slice A0_1 l0_1.length c0_1):=(blk_cell BK101.out 1).trans rfl
              have hfz24_0:=blk_frozen BK101.out 0
              have hfz24_1:=blk_frozen BK101.out 1
              have p113:0 ≤ ((rd t109 x29_2):Int):=oA
              have q113:(rd t109 x29_2) < (l0_0.length:Int):=oA
              obtain ⟨ad113,e113,hx113_0⟩:=Kd.at_int HR0_0.out (rd t109 x29_2) p113 q113
              cases e113
              replace hx113_0:=(HB.out.cell (World.block_lt_of_cell? w _ hx113_0)).trans hx113_0
              replace p113:=eq_true p113
              replace q113:=eq_true q113
              go_wp2
              go_roundg k2
              case measure=>have:=HK1.out;have:=HK2.out;omega
              case rel=>exact ⟨(x9_2),(wrap64 (x29_2 + 1)),oE,H',⟨by have:=HK1.out;have:=HK2.out;omega⟩,⟨by (with_reducible repeat (first|apply Kd.Q_alloc|apply Kd.Q_drewN|apply Kd.Q_drew));exact HO_7.out⟩,⟨by (with_reducible repeat (first|apply Kd.Q_alloc|apply Kd.Q_drewN|apply Kd.Q_drew));exact HO_9.out⟩,⟨rq HO_27.out⟩,⟨hq BK101.out⟩,⟨bg HB.out GE101 GE101⟩⟩
            ·rw [if_neg c19] at H
             exact absurd H (by simp)
           ·rw [if_neg c18] at H
            exact absurd H (by simp)
          ·rw [if_neg c17] at H
           exact absurd H (by simp)
         ·rw [if_neg c16] at H
          exact absurd H (by simp)
        ·rw [if_neg c15] at H
         have c15b0:decide (x29_2 < (t109.length:Int)) = false:=decide_eq_false c15
         clear c15
         have HC25:=Aside0.mk H
         clear H
         go_upto_region 14 with (fail)
         go_cut [58] (fun v58 wc=>∃ (kq:Nat) (x58_24:Bool),v58 = .bool x58_24 ∧ Aside0 (q7.j2 kq l1 x5_1 x6_1 y106 x9_2 x58_24 l0_0 l0_1 = some r) ∧ Aside0 (kq ≤ k2) ∧ Aside0 (Kd.Q (Kd.int .i64) 3 wc w.heap.size (fun k_=>some k_ ≠ (u9:Value).ownBlock) (.slice A11 y106.length c11) y106) ∧ Aside0 (Kd.Q (Kd.int .i64) 3 wc w.heap.size (fun k_=>some k_ ≠ ((.slice A11 y106.length c11):Value).ownBlock) u9 x9_2) ∧ Aside0 (wc.heap[gb101]? = some (.cells #[(.slice A0_0 l0_0.length c0_0),(.slice A0_1 l0_1.length c0_1)] 25 (0,0))) ∧ Aside0 (Below w.heap.size w wc))
         case first =>
          have H:=HC25.out
          clear HC25
          by_cases c26:(rd x7_1 0) < 0
          ·rw [if_pos c26] at H
           have c26b0:decide ((rd x7_1 0) < 0) = true:=decide_eq_true c26
           clear c26
           (first|rw [c26b0]|(simp only [i64_w,i32_w];rw [c26b0])|skip)
           have H':=Aside0.mk H
           clear H
           obtain ⟨Ao27,co27,eo27,_⟩:=Kd.Q_slice HO_9.out
           subst eo27
           go_wp2
           go_meet
           case rel=>exact ⟨_,(decide ((x9_2.length:Int) > 1)),oE,H',⟨by have:=HK1.out;have:=HK2.out;first|omega|exact Nat.le_refl _⟩,⟨by (with_reducible repeat (first|apply Kd.Q_alloc|apply Kd.Q_drewN|apply Kd.Q_drew));exact Kd.Q_mono HO_7.out (fun _ hk=>hk.1)⟩,⟨by (with_reducible repeat (first|apply Kd.Q_alloc|apply Kd.Q_drewN|apply Kd.Q_drew));exact Kd.Q_mono HO_9.out (fun _ hk=>hk.1)⟩,⟨hq BK101.out⟩,⟨bg HB.out GE101 GE101⟩⟩
          ·rw [if_neg c26] at H
           have c26b0:decide ((rd x7_1 0) < 0) = false:=decide_eq_false c26
           clear c26
           (first|rw [c26b0]|(simp only [i64_w,i32_w];rw [c26b0])|skip)
           by_cases c28:0 ≤ (rd x7_1 0)
           ·rw [if_pos c28] at H
            have c28b0:decide (0 ≤ (rd x7_1 0)) = true:=decide_eq_true c28
            clear c28
            by_cases c29:(rd x7_1 0) < (l0_0.length:Int)
            ·rw [if_pos c29] at H
             have c29b0:decide ((rd x7_1 0) < (l0_0.length:Int)) = true:=decide_eq_true c29
             clear c29
             by_cases c30:(rd l0_0 (rd x7_1 0)) = 1
             ·rw [if_pos c30] at H
              have c30b0:((rd l0_0 (rd x7_1 0)) == 1) = true:=beq_iff_eq.mpr c30
              have c30b1:((rd l0_0 (rd x7_1 0)) != 1) = false:=bne_eq_false_iff_eq.mpr c30
              clear c30
              have H':=Aside0.mk H
              clear H
              have hcz31_0:wr.cell? ⟨gb101,0,none⟩ = some (.slice A0_0 l0_0.length c0_0):=(blk_cell BK101.out 0).trans rfl
              have hcz31_1:wr.cell? ⟨gb101,1,none⟩ = some (.slice A0_1 l0_1.length c0_1):=(blk_cell BK101.out 1).trans rfl
              have hfz31_0:=blk_frozen BK101.out 0
              have hfz31_1:=blk_frozen BK101.out 1
              have p117:0 ≤ ((rd x7_1 0):Int):=oA
              have q117:(rd x7_1 0) < (l0_0.length:Int):=oA
              obtain ⟨ad117,e117,hx117_0⟩:=Kd.at_int HR0_0.out (rd x7_1 0) p117 q117
              cases e117
              replace hx117_0:=(HB.out.cell (World.block_lt_of_cell? w _ hx117_0)).trans hx117_0
              replace p117:=eq_true p117
              replace q117:=eq_true q117
              obtain ⟨Ao32,co32,eo32,_⟩:=Kd.Q_slice HO_9.out
              subst eo32
              go_wp2
              go_meet
              case rel=>exact ⟨_,(decide ((x9_2.length:Int) > 1)),oE,H',⟨by have:=HK1.out;have:=HK2.out;first|omega|exact Nat.le_refl _⟩,⟨by (with_reducible repeat (first|apply Kd.Q_alloc|apply Kd.Q_drewN|apply Kd.Q_drew));exact Kd.Q_mono HO_7.out (fun _ hk=>hk.1)⟩,⟨by (with_reducible repeat (first|apply Kd.Q_alloc|apply Kd.Q_drewN|apply Kd.Q_drew));exact Kd.Q_mono HO_9.out (fun _ hk=>hk.1)⟩,⟨hq BK101.out⟩,⟨bg HB.out GE101 GE101⟩⟩
             ·rw [if_neg c30] at H
              have c30b0:((rd l0_0 (rd x7_1 0)) == 1) = false:=beq_eq_false_iff_ne.mpr c30
              have c30b1:((rd l0_0 (rd x7_1 0)) != 1) = true:=bne_iff_ne.mpr c30
              have H':=Aside0.mk H
              clear H
              have hcz33_0:wr.cell? ⟨gb101,0,none⟩ = some (.slice A0_0 l0_0.length c0_0):=(blk_cell BK101.out 0).trans rfl
              have hcz33_1:wr.cell? ⟨gb101,1,none⟩ = some (.slice A0_1 l0_1.length c0_1):=(blk_cell BK101.out 1).trans rfl
              have hfz33_0:=blk_frozen BK101.out 0
              have hfz33_1:=blk_frozen BK101.out 1
              have p117:0 ≤ ((rd x7_1 0):Int):=oA
              have q117:(rd x7_1 0) < (l0_0.length:Int):=oA
              obtain ⟨ad117,e117,hx117_0⟩:=Kd.at_int HR0_0.out (rd x7_1 0) p117 q117
              cases e117
              replace hx117_0:=(HB.out.cell (World.block_lt_of_cell? w _ hx117_0)).trans hx117_0
              replace p117:=eq_true p117
              replace q117:=eq_true q117
              go_wp2
              go_meet
              case rel=>exact ⟨_,(false),oE,H',⟨by have:=HK1.out;have:=HK2.out;first|omega|exact Nat.le_refl _⟩,⟨by (with_reducible repeat (first|apply Kd.Q_alloc|apply Kd.Q_drewN|apply Kd.Q_drew));exact Kd.Q_mono HO_7.out (fun _ hk=>hk.1)⟩,⟨by (with_reducible repeat (first|apply Kd.Q_alloc|apply Kd.Q_drewN|apply Kd.Q_drew));exact Kd.Q_mono HO_9.out (fun _ hk=>hk.1)⟩,⟨hq BK101.out⟩,⟨bg HB.out GE101 GE101⟩⟩
            ·rw [if_neg c29] at H
             exact absurd H (by simp)
           ·rw [if_neg c28] at H
            exact absurd H (by simp)
         case rest =>
          clear HC25
          try clear c1
          try clear p1
          try clear q1
          try clear hx1
          try clear qi1
          try clear c2
          try clear p2
          try clear c3
          try clear c4
          try clear c6
          try clear c6b0
          try clear c6b1
          try clear p6
          try clear c7
          try clear c7b0
          try clear c7b1
          try clear c8
          try clear c8b0
          try clear c8b1
          try clear p10
          try clear q10
          try clear hx10
          try clear qi10
          try clear c11
          try clear p11
          try clear q11
          try clear hx11
          try clear c15
          try clear c15b0
          try clear c16
          try clear c16b0
          try clear c17
          try clear c17b0
          try clear c18
          try clear c18b0
          try clear c19
          try clear c19b0
          try clear c20
          try clear c20b0
          try clear c21
          try clear c26
          try clear c26b0
          try clear c28
          try clear c28b0
          try clear c29
          try clear c29b0
          try clear c30
          try clear c30b0
          try clear c30b1
          try clear hcz12_0
          try clear hcz12_1
          try clear hcz22_0
          try clear hcz22_1
          try clear hcz24_0
          try clear hcz24_1
          try clear hcz31_0
          try clear hcz31_1
          try clear hcz33_0
          try clear hcz33_1
          try clear hfz12_0
          try clear hfz12_1
          try clear hfz22_0
          try clear hfz22_1
          try clear hfz24_0
          try clear hfz24_1
          try clear hfz31_0
          try clear hfz31_1
          try clear hfz33_0
          try clear hfz33_1
          try clear hx105_0
          try clear hx112_0
          try clear hx113_0
          try clear hx117_0
          try clear p1
          try clear p10
          try clear p105
          try clear p112
          try clear p113
          try clear p117
          try clear p2
          try clear q1
          try clear q10
          try clear q105
          try clear q11
          try clear q112
          try clear q113
          try clear q117
          obtain ⟨kq,x58_24,rfl,HA,HJ24,HO_7,HO_9,BK101,HB⟩:=hcut
          cases kq with
          | zero=>exact absurd HA.out (by simp [q7.j2])
          | succ kj24 =>
           have H:=HA.out
           clear HA
           simp only [q7.j2] at H
           have HC34:=Aside0.mk H
           clear H
           go_upto_if 58 with (fail)
           go_cut [6,9] (fun v6 v9 wc=>∃ (kq:Nat) (x6_33:Int) (x9_33:List Int),v6 = .int .i64 x6_33 ∧ Aside0 (q7.j3 kq l1 x5_1 x6_33 y106 x9_33 l0_0 l0_1 = some r) ∧ Aside0 (kq ≤ kj24) ∧ Aside0 (Kd.Q (Kd.int .i64) 3 wc w.heap.size (fun k_=>some k_ ≠ (v9:Value).ownBlock) (.slice A11 y106.length c11) y106) ∧ Aside0 (Kd.Q (Kd.int .i64) 3 wc w.heap.size (fun k_=>some k_ ≠ ((.slice A11 y106.length c11):Value).ownBlock) v9 x9_33) ∧ Aside0 (wc.heap[gb101]? = some (.cells #[(.slice A0_0 l0_0.length c0_0),(.slice A0_1 l0_1.length c0_1)] 25 (0,0))) ∧ Aside0 (Below w.heap.size w wc))
           case first =>
            have H:=HC34.out
            clear HC34
            by_cases c35:x58_24 = true
            ·subst c35
             have H1:(if x6_1 < (l1.length:Int) then (if 0 ≤ x6_1 then ((q11.f (rd l1 x6_1) (x9_2.length:Int)).bind fun t119=>(if 0 ≤ t119 then (if t119 ≤ (wrap64 (t119 + 1)) then (if (wrap64 (t119 + 1)) ≤ (x9_2.length:Int) then (q7.j3 kj24 l1 x5_1 (wrap64 (x6_1 + 1)) y106 ((x9_2.take ((wrap64 (t119 + 1)):Int).toNat).drop (t119:Int).toNat) l0_0 l0_1) else (none)) else (none)) else (none))) else (none)) else ((q11.f 0 (x9_2.length:Int)).bind fun t123=>(if 0 ≤ t123 then (if t123 ≤ (wrap64 (t123 + 1)) then (if (wrap64 (t123 + 1)) ≤ (x9_2.length:Int) then (q7.j3 kj24 l1 x5_1 (wrap64 (x6_1 + 1)) y106 ((x9_2.take ((wrap64 (t123 + 1)):Int).toNat).drop (t123:Int).toNat) l0_0 l0_1) else (none)) else (none)) else (none)))) = some r:=by rw [if_pos rfl] at H;exact H
             clear H
             have H:=H1
             clear H1
             by_cases c36:x6_1 < (l1.length:Int)
             ·rw [if_pos c36] at H
              have c36b0:decide (x6_1 < (l1.length:Int)) = true:=decide_eq_true c36
              clear c36
              (first|rw [c36b0]|(simp only [i64_w,i32_w];rw [c36b0])|skip)
              by_cases c37:0 ≤ x6_1
              ·rw [if_pos c37] at H
               have c37b0:decide (0 ≤ x6_1) = true:=decide_eq_true c37
               clear c37
               replace H:=Option.bind_eq_some_iff.mp H
               obtain ⟨t119,A380,H⟩:=H
               replace H:(if 0 ≤ t119 then (if t119 ≤ (wrap64 (t119 + 1)) then (if (wrap64 (t119 + 1)) ≤ (x9_2.length:Int) then (q7.j3 kj24 l1 x5_1 (wrap64 (x6_1 + 1)) y106 ((x9_2.take ((wrap64 (t119 + 1)):Int).toNat).drop (t119:Int).toNat) l0_0 l0_1) else (none)) else (none)) else (none)) = some r:=H
               have A38:=Aside0.mk A380
               clear A380
               by_cases c39:0 ≤ t119
               ·rw [if_pos c39] at H
                have c39b0:=eq_true c39
                have c39b1:decide (0 ≤ t119) = true:=decide_eq_true c39
                clear c39
                by_cases c40:t119 ≤ (wrap64 (t119 + 1))
                ·rw [if_pos c40] at H
                 have c40b0:=eq_true c40
                 have c40b1:decide (t119 ≤ (wrap64 (t119 + 1))) = true:=decide_eq_true c40
                 by_cases c41:(wrap64 (t119 + 1)) ≤ (x9_2.length:Int)
                 ·rw [if_pos c41] at H
                  have c41b0:=eq_true c41
                  have c41b1:decide ((wrap64 (t119 + 1)) ≤ (x9_2.length:Int)) = true:=decide_eq_true c41
                  obtain ⟨y120,hy120⟩:∃ y_:List Int,y_ = ((x9_2.take ((wrap64 (t119 + 1)):Int).toNat).drop (t119:Int).toNat):=⟨_,rfl⟩
                  replace H:(q7.j3 kj24 l1 x5_1 (wrap64 (x6_1 + 1)) y106 y120 l0_0 l0_1) = some r:=by first|(rw [hy120];with_reducible exact H)|(have H2_:=(Option.bind_some _ _).symm.trans H;rw [hy120];with_reducible exact H2_)|(have H2_:=(Option.bind_some _ _).symm.trans H;with_reducible exact H2_)|with_reducible exact H|(rw [hy120];exact H)|exact H
                  have Ny120:=Aside0.mk hy120
                  clear hy120
                  have H':=Aside0.mk H
                  clear H
                  have p118:0 ≤ (x6_1:Int):=oA
                  have q118:x6_1 < (l1.length:Int):=oA
                  obtain ⟨ad118,e118,hx118_0⟩:=Kd.at_int HR1.out x6_1 p118 q118
                  cases e118
                  replace hx118_0:=(HB.out.cell (World.block_lt_of_cell? w _ hx118_0)).trans hx118_0
                  replace p118:=eq_true p118
                  replace q118:=eq_true q118
                  obtain ⟨Ao42,co42,eo42,_⟩:=Kd.Q_slice HO_9.out
                  subst eo42
                  go_wp2_with (first|((with_reducible refine gate_callee (f:=19) rfl ?_);refine goesL_ (some 72) rfl rfl Try.func19 (by kernel_rfl) rfl #[.int .i64 (rd l1 x6_1),.int .i64 (x9_2.length:Int)] rfl oF ?_;(with_reducible refine (q11.calls (rd l1 x6_1) (x9_2.length:Int) t119 _ A38.out).mono ?_);rintro e w' ⟨rfl,⟨nd,rfl⟩⟩;refine ⟨_,rfl,?_⟩;have q43:((wrap64 (t119 + 1)):Int) ≤ ((x9_2.length:Int):Int):=oA;have ql43:(t119:Int) ≤ ((wrap64 (t119 + 1)):Int):=oA;have q043:(0:Int) ≤ (t119:Int):=oA;obtain ⟨i043,hi043,_,hsz43,_⟩:=info_parts info3;have hcut43:=cut_mid (P:=Try.prog) 22 3 .i64 .i64 Try.underlying22 hi043 1 hsz43 Ao42 x9_2.length co42 t119 (wrap64 (t119 + 1)) q043 ql43 q43 (Kd.Q_reads' HO_9.out).2.1;have hr43:=Kd.Q_drop (k:=(t119:Int).toNat) (Kd.Q_take (m:=((wrap64 (t119 + 1)):Int).toNat) HO_9.out (by omega)) (by rw [List.length_take];omega);obtain ⟨A43,hA43⟩:∃ A1,A1 = (if co42 = (t119:Int).toNat then Ao42 else (Ao42:Option Addr).map (·.add ((t119:Int).toNat * 1))):=⟨_,rfl⟩;obtain ⟨c43,hc43⟩:∃ c1,c1 = co42 - (t119:Int).toNat:=⟨_,rfl⟩;have hy43:y120.length = ((wrap64 (t119 + 1)):Int).toNat - (t119:Int).toNat:=(by rw [Ny120.out,List.length_drop,List.length_take];omega);rw [← Ny120.out] at hr43;rw [← hy43,← hA43,← hc43] at hcut43;replace hr43:Kd.Q (Kd.int .i64) 3 wc w.heap.size (fun k_=>some k_ ≠ (.slice A11 y106.length c11:Value).ownBlock) (.slice A43 y120.length c43) y120:=(by rw [hA43,hc43,hy43];exact hr43);have HE43:Aside0 ((Value.slice A43 y120.length c43).ownBlock = (.slice Ao42 x9_2.length co42:Value).ownBlock):=⟨by rw [hA43];exact ownBlock_cut _ _ _ _ _ _ _⟩;clear hy43 hi043 hsz43 HO_9 hA43 hc43;have HO122:=Aside0.mk hr43;clear hr43;replace q43:=eq_true q43;clear ql43 q043;have n_:=zk (Kd.Q_mono (ok':=fun k_=>some k_ ≠ (.slice A43 y120.length c43:Value).ownBlock) HO_7.out (fun k_ hk=>(by rw [HE43.out];exact hk)));clear HO_7;have HO_7:=n_;clear n_))
                  go_meet
                  case rel=>exact ⟨_,(wrap64 (x6_1 + 1)),(y120),oE,H',⟨by have:=HK1.out;have:=HK2.out;have:=HJ24.out;first|omega|exact Nat.le_refl _⟩,⟨by (with_reducible repeat (first|apply Kd.Q_alloc|apply Kd.Q_drewN|apply Kd.Q_drew));exact HO_7.out⟩,⟨by (with_reducible repeat (first|apply Kd.Q_alloc|apply Kd.Q_drewN|apply Kd.Q_drew));exact HO122.out⟩,⟨hq BK101.out⟩,⟨bg HB.out GE101 GE101⟩⟩
                 ·rw [if_neg c41] at H
                  exact absurd H (by simp)
                ·rw [if_neg c40] at H
                 exact absurd H (by simp)
               ·rw [if_neg c39] at H
                exact absurd H (by simp)
              ·rw [if_neg c37] at H
               exact absurd H (by simp)
             ·rw [if_neg c36] at H
              have c36b0:decide (x6_1 < (l1.length:Int)) = false:=decide_eq_false c36
              clear c36
              (first|rw [c36b0]|(simp only [i64_w,i32_w];rw [c36b0])|skip)
              replace H:=Option.bind_eq_some_iff.mp H
              obtain ⟨t123,A440,H⟩:=H
              replace H:(if 0 ≤ t123 then (if t123 ≤ (wrap64 (t123 + 1)) then (if (wrap64 (t123 + 1)) ≤ (x9_2.length:Int) then (q7.j3 kj24 l1 x5_1 (wrap64 (x6_1 + 1)) y106 ((x9_2.take ((wrap64 (t123 + 1)):Int).toNat).drop (t123:Int).toNat) l0_0 l0_1) else (none)) else (none)) else (none)) = some r:=H
              have A44:=Aside0.mk A440
              clear A440
              by_cases c45:0 ≤ t123
              ·rw [if_pos c45] at H
               have c45b0:=eq_true c45
               have c45b1:decide (0 ≤ t123) = true:=decide_eq_true c45
               clear c45
               by_cases c46:t123 ≤ (wrap64 (t123 + 1))
               ·rw [if_pos c46] at H
                have c46b0:=eq_true c46
                have c46b1:decide (t123 ≤ (wrap64 (t123 + 1))) = true:=decide_eq_true c46
                by_cases c47:(wrap64 (t123 + 1)) ≤ (x9_2.length:Int)
                ·rw [if_pos c47] at H
                 have c47b0:=eq_true c47
                 have c47b1:decide ((wrap64 (t123 + 1)) ≤ (x9_2.length:Int)) = true:=decide_eq_true c47
                 obtain ⟨y124,hy124⟩:∃ y_:List Int,y_ = ((x9_2.take ((wrap64 (t123 + 1)):Int).toNat).drop (t123:Int).toNat):=⟨_,rfl⟩
                 replace H:(q7.j3 kj24 l1 x5_1 (wrap64 (x6_1 + 1)) y106 y124 l0_0 l0_1) = some r:=by first|(rw [hy124];with_reducible exact H)|(have H2_:=(Option.bind_some _ _).symm.trans H;rw [hy124];with_reducible exact H2_)|(have H2_:=(Option.bind_some _ _).symm.trans H;with_reducible exact H2_)|with_reducible exact H|(rw [hy124];exact H)|exact H
                 have Ny124:=Aside0.mk hy124
                 clear hy124
                 have H':=Aside0.mk H
                 clear H
                 obtain ⟨Ao48,co48,eo48,_⟩:=Kd.Q_slice HO_9.out
                 subst eo48
                 go_wp2_with (first|((with_reducible refine gate_callee (f:=19) rfl ?_);refine goesL_ (some 72) rfl rfl Try.func19 (by kernel_rfl) rfl #[.int .i64 0,.int .i64 (x9_2.length:Int)] rfl oF ?_;(with_reducible refine (q11.calls 0 (x9_2.length:Int) t123 _ A44.out).mono ?_);rintro e w' ⟨rfl,⟨nd,rfl⟩⟩;refine ⟨_,rfl,?_⟩;have q49:((wrap64 (t123 + 1)):Int) ≤ ((x9_2.length:Int):Int):=oA;have ql49:(t123:Int) ≤ ((wrap64 (t123 + 1)):Int):=oA;have q049:(0:Int) ≤ (t123:Int):=oA;obtain ⟨i049,hi049,_,hsz49,_⟩:=info_parts info3;have hcut49:=cut_mid (P:=Try.prog) 22 3 .i64 .i64 Try.underlying22 hi049 1 hsz49 Ao48 x9_2.length co48 t123 (wrap64 (t123 + 1)) q049 ql49 q49 (Kd.Q_reads' HO_9.out).2.1;have hr49:=Kd.Q_drop (k:=(t123:Int).toNat) (Kd.Q_take (m:=((wrap64 (t123 + 1)):Int).toNat) HO_9.out (by omega)) (by rw [List.length_take];omega);obtain ⟨A49,hA49⟩:∃ A1,A1 = (if co48 = (t123:Int).toNat then Ao48 else (Ao48:Option Addr).map (·.add ((t123:Int).toNat * 1))):=⟨_,rfl⟩;obtain ⟨c49,hc49⟩:∃ c1,c1 = co48 - (t123:Int).toNat:=⟨_,rfl⟩;have hy49:y124.length = ((wrap64 (t123 + 1)):Int).toNat - (t123:Int).toNat:=(by rw [Ny124.out,List.length_drop,List.length_take];omega);rw [← Ny124.out] at hr49;rw [← hy49,← hA49,← hc49] at hcut49;replace hr49:Kd.Q (Kd.int .i64) 3 wc w.heap.size (fun k_=>some k_ ≠ (.slice A11 y106.length c11:Value).ownBlock) (.slice A49 y124.length c49) y124:=(by rw [hA49,hc49,hy49];exact hr49);have HE49:Aside0 ((Value.slice A49 y124.length c49).ownBlock = (.slice Ao48 x9_2.length co48:Value).ownBlock):=⟨by rw [hA49];exact ownBlock_cut _ _ _ _ _ _ _⟩;clear hy49 hi049 hsz49 HO_9 hA49 hc49;have HO126:=Aside0.mk hr49;clear hr49;replace q49:=eq_true q49;clear ql49 q049;have n_:=zk (Kd.Q_mono (ok':=fun k_=>some k_ ≠ (.slice A49 y124.length c49:Value).ownBlock) HO_7.out (fun k_ hk=>(by rw [HE49.out];exact hk)));clear HO_7;have HO_7:=n_;clear n_))
                 go_meet
                 case rel=>exact ⟨_,(wrap64 (x6_1 + 1)),(y124),oE,H',⟨by have:=HK1.out;have:=HK2.out;have:=HJ24.out;first|omega|exact Nat.le_refl _⟩,⟨by (with_reducible repeat (first|apply Kd.Q_alloc|apply Kd.Q_drewN|apply Kd.Q_drew));exact HO_7.out⟩,⟨by (with_reducible repeat (first|apply Kd.Q_alloc|apply Kd.Q_drewN|apply Kd.Q_drew));exact HO126.out⟩,⟨hq BK101.out⟩,⟨bg HB.out GE101 GE101⟩⟩
                ·rw [if_neg c47] at H
                 exact absurd H (by simp)
               ·rw [if_neg c46] at H
                exact absurd H (by simp)
              ·rw [if_neg c45] at H
               exact absurd H (by simp)
            ·replace c35:=Bool.eq_false_iff.mpr c35
             subst c35
             have H1:(q7.j3 kj24 l1 x5_1 x6_1 y106 x9_2 l0_0 l0_1) = some r:=by rw [if_neg (show ¬ (false = true) by decide)] at H;exact H
             clear H
             have H:=H1
             clear H1
             have H':=Aside0.mk H
             clear H
             go_wp2
             go_meet
             case rel=>exact ⟨_,(x6_1),(x9_2),oE,H',⟨by have:=HK1.out;have:=HK2.out;have:=HJ24.out;first|omega|exact Nat.le_refl _⟩,⟨by (with_reducible repeat (first|apply Kd.Q_alloc|apply Kd.Q_drewN|apply Kd.Q_drew));exact HO_7.out⟩,⟨by (with_reducible repeat (first|apply Kd.Q_alloc|apply Kd.Q_drewN|apply Kd.Q_drew));exact HO_9.out⟩,⟨hq BK101.out⟩,⟨bg HB.out GE101 GE101⟩⟩
           case rest =>
            clear HC34
            try clear c1
            try clear p1
            try clear q1
            try clear hx1
            try clear qi1
            try clear c2
            try clear p2
            try clear c3
            try clear c4
            try clear q4
            try clear c6
            try clear c6b0
            try clear c6b1
            try clear p6
            try clear c7
            try clear c7b0
            try clear c7b1
            try clear c8
            try clear c8b0
            try clear c8b1
            try clear p10
            try clear q10
            try clear hx10
            try clear qi10
            try clear c11
            try clear p11
            try clear q11
            try clear hx11
            try clear c15
            try clear c15b0
            try clear c16
            try clear c16b0
            try clear c17
            try clear c17b0
            try clear c18
            try clear c18b0
            try clear c19
            try clear c19b0
            try clear c20
            try clear c20b0
            try clear c21
            try clear c26
            try clear c26b0
            try clear c28
            try clear c28b0
            try clear c29
            try clear c29b0
            try clear c30
            try clear c30b0
            try clear c30b1
            try clear c35
            try clear c36
            try clear c36b0
            try clear c37
            try clear c37b0
            try clear c39
            try clear c39b0
            try clear c39b1
            try clear c40
            try clear c40b0
            try clear c40b1
            try clear c41
            try clear c41b0
            try clear c41b1
            try clear c43
            try clear q43
            try clear c45
            try clear c45b0
            try clear c45b1
            try clear c46
            try clear c46b0
            try clear c46b1
            try clear c47
            try clear c47b0
            try clear c47b1
            try clear c49
            try clear q49
            try clear hcz12_0
            try clear hcz12_1
            try clear hcz22_0
            try clear hcz22_1
            try clear hcz24_0
            try clear hcz24_1
            try clear hcz31_0
            try clear hcz31_1
            try clear hcz33_0
            try clear hcz33_1
            try clear hfz12_0
            try clear hfz12_1
            try clear hfz22_0
            try clear hfz22_1
            try clear hfz24_0
            try clear hfz24_1
            try clear hfz31_0
            try clear hfz31_1
            try clear hfz33_0
            try clear hfz33_1
            try clear hx105_0
            try clear hx112_0
            try clear hx113_0
            try clear hx117_0
            try clear hx118_0
            try clear p1
            try clear p10
            try clear p105
            try clear p11
            try clear p112
            try clear p113
            try clear p117
            try clear p118
            try clear p2
            try clear p6
            try clear q043
            try clear q049
            try clear q1
            try clear q10
            try clear q105
            try clear q11
            try clear q112
            try clear q113
            try clear q117
            try clear q118
            try clear q43
            try clear q49
            obtain ⟨kq,x6_33,x9_33,rfl,HA,HJ33,HO_7,HO_9,BK101,HB⟩:=hcut
            cases kq with
            | zero=>exact absurd HA.out (by simp [q7.j3])
            | succ kj33 =>
             have H:=HA.out
             clear HA
             simp only [q7.j3] at H
             have H':=Aside0.mk H
             clear H
             obtain ⟨Ao50,co50,eo50,_⟩:=Kd.Q_slice HO_9.out
             subst eo50
             go_wp2
             go_loopg [5,80] kj33 (fun kq v5 v80 w'=>∃ (x5_5:Int) (x80_5:Int),v5 = .int .u32 x5_5 ∧ v80 = .int .i64 x80_5 ∧ Aside0 (q7.l2 kq l1 x5_5 x6_33 y106 x9_33 x9_33 (x9_33.length:Int) x80_5 l0_0 l0_1 = some r) ∧ Aside0 (kq ≤ kj33) ∧ Aside0 (Kd.Q (Kd.int .i64) 3 w' w.heap.size (fun k_=>some k_ ≠ ((.slice Ao50 x9_33.length co50):Value).ownBlock ∧ some k_ ≠ ((.slice Ao50 x9_33.length co50):Value).ownBlock) (.slice A11 y106.length c11) y106) ∧ Aside0 (Kd.Q (Kd.int .i64) 3 w' w.heap.size (fun k_=>some k_ ≠ ((.slice A11 y106.length c11):Value).ownBlock) (.slice Ao50 x9_33.length co50) x9_33) ∧ Aside0 (Kd.Q (Kd.int .i64) 3 w' w.heap.size (fun k_=>some k_ ≠ ((.slice A11 y106.length c11):Value).ownBlock) (.slice Ao50 x9_33.length co50) x9_33) ∧ Aside0 (w'.heap[gb101]? = some (.cells #[(.slice A0_0 l0_0.length c0_0),(.slice A0_1 l0_1.length c0_1)] 25 (0,0))) ∧ Aside0 (Below w.heap.size w w'))
             case atStart=>exact ⟨(x5_1),(0),oE,oE,H',⟨Nat.le_refl _⟩,⟨by (with_reducible repeat (first|apply Kd.Q_alloc|apply Kd.Q_drewN|apply Kd.Q_drew));exact Kd.Q_mono HO_7.out (fun _ hk=>⟨hk,hk⟩)⟩,⟨by (with_reducible repeat (first|apply Kd.Q_alloc|apply Kd.Q_drewN|apply Kd.Q_drew));exact HO_9.out⟩,⟨by (with_reducible repeat (first|apply Kd.Q_alloc|apply Kd.Q_drewN|apply Kd.Q_drew));exact HO_9.out⟩,⟨hq BK101.out⟩,⟨bg HB.out GE101 GE101⟩⟩
             case round =>
              clear H'
              try clear c1
              try clear p1
              try clear q1
              try clear hx1
              try clear qi1
              try clear c2
              try clear p2
              try clear c3
              try clear c4
              try clear q4
              try clear c6
              try clear c6b0
              try clear c6b1
              try clear p6
              try clear c7
              try clear c7b0
              try clear c7b1
              try clear c8
              try clear c8b0
              try clear c8b1
              try clear p10
              try clear q10
              try clear hx10
              try clear qi10
              try clear c11
              try clear p11
              try clear q11
              try clear hx11
              try clear c15
              try clear c15b0
              try clear c16
              try clear c16b0
              try clear c17
              try clear c17b0
              try clear c18
              try clear c18b0
              try clear c19
              try clear c19b0
              try clear c20
              try clear c20b0
              try clear c21
              try clear c26
              try clear c26b0
              try clear c28
              try clear c28b0
              try clear c29
              try clear c29b0
              try clear c30
              try clear c30b0
              try clear c30b1
              try clear c35
              try clear c36
              try clear c36b0
              try clear c37
              try clear c37b0
              try clear c39
              try clear c39b0
              try clear c39b1
              try clear c40
              try clear c40b0
              try clear c40b1
              try clear c41
              try clear c41b0
              try clear c41b1
              try clear c43
              try clear q43
              try clear c45
              try clear c45b0
              try clear c45b1
              try clear c46
              try clear c46b0
              try clear c46b1
              try clear c47
              try clear c47b0
              try clear c47b1
              try clear c49
              try clear q49
              try clear hcz12_0
              try clear hcz12_1
              try clear hcz22_0
              try clear hcz22_1
              try clear hcz24_0
              try clear hcz24_1
              try clear hcz31_0
              try clear hcz31_1
              try clear hcz33_0
              try clear hcz33_1
              try clear hfz12_0
              try clear hfz12_1
              try clear hfz22_0
              try clear hfz22_1
              try clear hfz24_0
              try clear hfz24_1
              try clear hfz31_0
              try clear hfz31_1
              try clear hfz33_0
              try clear hfz33_1
              try clear hx105_0
              try clear hx112_0
              try clear hx113_0
              try clear hx117_0
              try clear hx118_0
              try clear p1
              try clear p10
              try clear p105
              try clear p11
              try clear p112
              try clear p113
              try clear p117
              try clear p118
              try clear p2
              try clear p6
              try clear q043
              try clear q049
              try clear q1
              try clear q10
              try clear q105
              try clear q11
              try clear q112
              try clear q113
              try clear q117
              try clear q118
              try clear q4
              try clear q43
              try clear q49
              obtain ⟨x5_5,x80_5,rfl,rfl,HA,HK5,HO_7,HO_9,HO_78,BK101,HB⟩:=hrel
              cases gk with
              | zero=>exact absurd HA.out (by simp [q7.l2])
              | succ k5 =>
               have H:=HA.out
               clear HA
               simp only [q7.l2] at H
               by_cases c51:x80_5 < (x9_33.length:Int)
               ·rw [if_pos c51] at H
                have c51b0:decide (x80_5 < (x9_33.length:Int)) = true:=decide_eq_true c51
                clear c51
                by_cases c52:0 ≤ x80_5
                ·rw [if_pos c52] at H
                 have c52b0:decide (0 ≤ x80_5) = true:=decide_eq_true c52
                 clear c52
                 by_cases c53:x80_5 < (x9_33.length:Int)
                 ·rw [if_pos c53] at H
                  have c53b0:decide (x80_5 < (x9_33.length:Int)) = true:=decide_eq_true c53
                  clear c53
                  obtain ⟨ji54,hji54⟩:∃ j_:Int,(IntKind.u64.wrap (rd x9_33 x80_5)) = j_:=⟨_,rfl⟩
                  replace H:(if 0 ≤ (ji54) then (q7.l2 k5 l1 (Go.bits .or .u32 x5_5 (shl .u32 1 (ji54))) x6_33 y106 x9_33 x9_33 (x9_33.length:Int) (wrap64 (x80_5 + 1)) l0_0 l0_1) else (none)) = some r:=by first|(rw [hji54] at H;exact H)|(simp only [hji54] at H ⊢;exact H)
                  by_cases c55:0 ≤ (ji54)
                  ·rw [if_pos c55] at H
                   have c55b0:=eq_true c55
                   have c55b1:decide (0 ≤ (ji54)) = true:=decide_eq_true c55
                   clear c55
                   obtain ⟨ji56,hji56⟩:∃ j_:Int,(shl .u32 1 (ji54)) = j_:=⟨_,rfl⟩
                   replace H:(q7.l2 k5 l1 (Go.bits .or .u32 x5_5 (ji56)) x6_33 y106 x9_33 x9_33 (x9_33.length:Int) (wrap64 (x80_5 + 1)) l0_0 l0_1) = some r:=by first|(rw [hji56] at H;exact H)|(simp only [hji56] at H ⊢;exact H)
                   have hji56_:(IntKind.u32.wrap (1 * 2 ^ min (ji54).toNat 32)) = ji56:=hji56
                   have hji56z:(ji54) ≤ 32 → (IntKind.u32.wrap (1 * 2 ^ (ji54).toNat)) = ji56:=shl_small hji56
                   have hji56u:(IntKind.u32.wrap (2 ^ min (ji54).toNat 32)) = ji56:=by have h_:=hji56_;rw [Int.one_mul] at h_;exact h_
                   have hji56v:(ji54) ≤ 32 → (IntKind.u32.wrap (2 ^ (ji54).toNat)) = ji56:=fun hle_=>by have h_:=hji56z hle_;rw [Int.one_mul] at h_;exact h_
                   have H':=Aside0.mk H
                   clear H
                   have p127:0 ≤ (x80_5:Int):=oA
                   have q127:x80_5 < (x9_33.length:Int):=oA
                   obtain ⟨ad127,e127,hx127_0⟩:=Kd.at_int (Kd.Q_reads' HO_78.out).2.2 x80_5 p127 q127
                   cases e127
                   replace p127:=eq_true p127
                   replace q127:=eq_true q127
                   go_wp2
                   go_roundg k5
                   case measure=>have:=HK1.out;have:=HK2.out;have:=HJ24.out;have:=HJ33.out;have:=HK5.out;omega
                   case rel=>exact ⟨(Go.bits .or .u32 x5_5 (ji56)),(wrap64 (x80_5 + 1)),(by first|rfl|(simp;done)|(simp only [← hji56] <;> (first|rfl|simp))|(simp [*];done)),oE,(by first|exact H'|exact ⟨by simp only [hji54,hji56];exact H'.out⟩),⟨by have:=HK1.out;have:=HK2.out;have:=HJ24.out;have:=HJ33.out;have:=HK5.out;omega⟩,⟨by (with_reducible repeat (first|apply Kd.Q_alloc|apply Kd.Q_drewN|apply Kd.Q_drew));exact HO_7.out⟩,⟨by (with_reducible repeat (first|apply Kd.Q_alloc|apply Kd.Q_drewN|apply Kd.Q_drew));exact HO_9.out⟩,⟨by (with_reducible repeat (first|apply Kd.Q_alloc|apply Kd.Q_drewN|apply Kd.Q_drew));exact HO_78.out⟩,⟨hq BK101.out⟩,⟨bg HB.out GE101 GE101⟩⟩
                  ·rw [if_neg c55] at H
                   exact absurd H (by simp)
                 ·rw [if_neg c53] at H
                  exact absurd H (by simp)
                ·rw [if_neg c52] at H
                 exact absurd H (by simp)
               ·rw [if_neg c51] at H
                have c51b0:decide (x80_5 < (x9_33.length:Int)) = false:=decide_eq_false c51
                clear c51
                by_cases c57:y106.length + x9_33.length < 17592186044416
                ·rw [if_pos c57] at H
                 have LMc57:=Aside0.mk c57
                 clear c57
                 obtain ⟨y128,hy128⟩:∃ y_:List Int,y_ = (y106 ++ x9_33):=⟨_,rfl⟩
                 replace H:(q7.l0 k5 l1 x5_5 x6_33 y128 l0_0 l0_1) = some r:=by first|(rw [hy128];with_reducible exact H)|(have H2_:=(Option.bind_some _ _).symm.trans H;rw [hy128];with_reducible exact H2_)|(have H2_:=(Option.bind_some _ _).symm.trans H;with_reducible exact H2_)|with_reducible exact H|(rw [hy128];exact H)|exact H
                 have Ny128:=Aside0.mk hy128
                 clear hy128
                 have H':=Aside0.mk H
                 clear H
                 go_wp2_with (first|((with_reducible refine gate_builtin (b:=.append) (xs:=#[.tmp 90,.tmp 91]) rfl ?_);(try (refine gate_guard (by rfl) ?_;dsimp only));at_builtin;refine Kd.Q_append_rows (Kd.int .i64) (w0:=w) w.heap.size rfl (.tmp 90) (.tmp 91) 22 3 (.int .i64 0) 8 rfl Try.underlying22 info3 rfl (by decide) (by omega) (.slice A11 y106.length c11) y106 x9_33 _ _ _ (fun k_=>some k_ ≠ (.slice Ao50 x9_33.length co50:Value).ownBlock ∧ some k_ ≠ (.slice Ao50 x9_33.length co50:Value).ownBlock) (fun _=>False) rfl rfl ?aO ?aR (fun _ _ h=>h) (fun _ h=>h.elim) ?aF ?aB ?aS ?aL ?_;(case aR=>exact cq ((Kd.Q_reads' HO_9.out).2.2));(case aB=>exact (bg HB.out GE101 GE101));(case aF=>exact (fun k_ hk=>⟨Kd.fresh' (Kd.Q_lt (by (with_reducible repeat (first|apply Kd.Q_alloc|apply Kd.Q_drewN|apply Kd.Q_drew));exact HO_9.out)) k_ hk,Kd.fresh' (Kd.Q_lt (by (with_reducible repeat (first|apply Kd.Q_alloc|apply Kd.Q_drewN|apply Kd.Q_drew));exact HO_78.out)) k_ hk⟩));(case aO=>exact (by (with_reducible repeat (first|apply Kd.Q_alloc|apply Kd.Q_drewN|apply Kd.Q_drew));exact HO_7.out));(case aS=>exact (below_size (bg HB.out GE101 GE101)));(case aL=>have:=LMc57.out;omega);intro v129 w58 ho hb hg hat;rw [← Ny128.out] at ho;have n0_:=zk (Kd.Q_after (ok:=(fun _=>True)) (by (with_reducible repeat (first|apply Kd.Q_alloc|apply Kd.Q_drewN|apply Kd.Q_drew));exact Kd.Q_mono HO_9.out (fun _ hk=>⟨trivial,hk⟩)) hg hat);have n1_:=zk (Kd.Q_after (ok:=(fun _=>True)) (by (with_reducible repeat (first|apply Kd.Q_alloc|apply Kd.Q_drewN|apply Kd.Q_drew));exact Kd.Q_mono HO_78.out (fun _ hk=>⟨trivial,hk⟩)) hg hat);have n2_:=zk (blk_grown (g:=gb101) (o:=.cells #[.slice A0_0 l0_0.length c0_0,.slice A0_1 l0_1.length c0_1] 25 (0,0)) (hq BK101.out) hg (Kd.Q_ne HO_7.out BK101.out (by decide)));have n3_:=zk (hb);have n4_:=zk (ho);clear HO_9;clear HO_78;clear BK101;clear HB;clear HO_7;have HO_9:=n0_;have HO_78:=n1_;have BK101:=n2_;have HB:=n3_;have HO130:=n4_;clear n0_ n1_ n2_ n3_ n4_;clear ho hb hg hat))
                 go_roundg k5
                 case measure=>have:=HK1.out;have:=HK2.out;have:=HJ24.out;have:=HJ33.out;have:=HK5.out;omega
                 case rel=>exact ⟨(x5_5),(x6_33),(y128),oE,oE,H',⟨by have:=HK1.out;have:=HK2.out;have:=HJ24.out;have:=HJ33.out;have:=HK5.out;omega⟩,⟨by (with_reducible repeat (first|apply Kd.Q_alloc|apply Kd.Q_drewN|apply Kd.Q_drew));exact Kd.Q_mono HO130.out (fun _ hk=>trivial)⟩,⟨hq BK101.out⟩,⟨bg HB.out GE101 GE101⟩⟩
                ·rw [if_neg c57] at H
                 exact absurd H (by simp)
     ·rw [if_neg c8] at H
      exact absurd H (by simp)
    ·rw [if_neg c7] at H
     exact absurd H (by simp)
   ·rw [if_neg c6] at H
    have c6b0:decide (0 < (x7_1.length:Int)) = false:=decide_eq_false c6
    have c6b1:decide (0 < x7_1.length) = false:=decide_eq_false (by omega)
    clear c6
    obtain rfl:=Option.some.inj H
    obtain ⟨Ao59,co59,eo59,_⟩:=Kd.Q_slice HO_7.out
    subst eo59
    go_wp2
    go_ret
    exact ⟨by first|rfl|(simp [errW_none,errW_some] <;> rfl)|(simp [*,errW_none,errW_some] <;> rfl),bg HB.out GE101 GE101⟩
def q4.f (l0_0:List Int) (l0_1:List Int) (a1:Int):Option (Bool):=if a1 ≥ 0 then (some (decide (a1 < (l0_0.length:Int)))) else (some false)
set_option maxHeartbeats 8000000 in
set_option maxRecDepth 100000 in
theorem q4.calls (A0_0:Option Addr) (c0_0:Nat) (l0_0:List Int) (A0_1:Option Addr) (c0_1:Nat) (l0_1:List Int) (a1:Int) (r:Bool) (w:World) (hr0_0:Kd.C (Kd.int .i64) w A0_0 l0_0.length l0_0) (hc0_0:l0_0.length ≤ c0_0) (hr0_1:Kd.C (Kd.int .i64) w A0_1 l0_1.length l0_1) (hc0_1:l0_1.length ≤ c0_1) (h:q4.f l0_0 l0_1 a1 = some r) :
  Calls Try.prog 54 #[.agg #[.slice A0_0 l0_0.length c0_0,.slice A0_1 l0_1.length c0_1],.int .i64 a1] w fun e w'=>e = .returned (.bool r) ∧ Below w.heap.size w w':=by
 have hu25:=Try.underlying25
 have HR0_0:=Aside0.mk hr0_0
 have HC0_0:=Aside0.mk hc0_0
 clear hr0_0 hc0_0
 have HR0_1:=Aside0.mk hr0_1
 have HC0_1:=Aside0.mk hc0_1
 clear hr0_1 hc0_1
 have HB:=zk (Below.refl w.heap.size w)
 have H:(if a1 ≥ 0 then (some (decide (a1 < (l0_0.length:Int)))) else (some false)) = some r:=h
 clear h
 by_cases c3:a1 ≥ 0
 ·rw [if_pos c3] at H
  have c3b0:decide (0 ≤ a1) = true:=decide_eq_true c3
  clear c3
  obtain rfl:=Option.some.inj H
  go_enter Try.func54,Try.ntmps54
  go_wp2_with (first|((with_reducible refine gate_dst (N:=2) rfl ?_);(try (refine gate_guard (by rfl) ?_;dsimp only));refine box_event ?hg (N:=2) ?hd (cs:=#[.slice A0_0 l0_0.length c0_0,.slice A0_1 l0_1.length c0_1]) (t:=25) ?hr ?_;(case hd=>rfl);(case hg=>rfl);(case hr=>first|(go_simp;done)|(go_simp;rfl));intro gb101 hg w4 hbox hb;have n0_:=zk (below_step (bq HB.out) hb);have n1_:=zk (hbox);have n2_:=zk ((by rw [hg];exact (below_size (bq HB.out)):w.heap.size ≤ gb101));have n3_:=zk ((by rw [hg];exact (below_size (bq HB.out)):w.heap.size ≤ gb101));clear HB;have HB:=n0_;have BK101:=n1_;have GW101:=n2_;have GE101:=n3_;clear n0_ n1_ n2_ n3_;clear hb hbox hg;have hcz5_0:w4.cell? ⟨gb101,0,none⟩ = some (.slice A0_0 l0_0.length c0_0):=(blk_cell BK101.out 0).trans rfl;have hcz5_1:w4.cell? ⟨gb101,1,none⟩ = some (.slice A0_1 l0_1.length c0_1):=(blk_cell BK101.out 1).trans rfl;have hfz5_0:=blk_frozen BK101.out 0;have hfz5_1:=blk_frozen BK101.out 1))
  go_ret
  exact ⟨by first|rfl|(simp [errW_none,errW_some] <;> rfl)|(simp [*,errW_none,errW_some] <;> rfl),bg HB.out GE101 GE101⟩
 ·rw [if_neg c3] at H
  have c3b0:decide (0 ≤ a1) = false:=decide_eq_false c3
  clear c3
  obtain rfl:=Option.some.inj H
  go_enter Try.func54,Try.ntmps54
  go_wp2_with (first|((with_reducible refine gate_dst (N:=2) rfl ?_);(try (refine gate_guard (by rfl) ?_;dsimp only));refine box_event ?hg (N:=2) ?hd (cs:=#[.slice A0_0 l0_0.length c0_0,.slice A0_1 l0_1.length c0_1]) (t:=25) ?hr ?_;(case hd=>rfl);(case hg=>rfl);(case hr=>first|(go_simp;done)|(go_simp;rfl));intro gb101 hg w6 hbox hb;have n0_:=zk (below_step (bq HB.out) hb);have n1_:=zk (hbox);have n2_:=zk ((by rw [hg];exact (below_size (bq HB.out)):w.heap.size ≤ gb101));have n3_:=zk ((by rw [hg];exact (below_size (bq HB.out)):w.heap.size ≤ gb101));clear HB;have HB:=n0_;have BK101:=n1_;have GW101:=n2_;have GE101:=n3_;clear n0_ n1_ n2_ n3_;clear hb hbox hg))
  go_ret
  exact ⟨by first|rfl|(simp [errW_none,errW_some] <;> rfl)|(simp [*,errW_none,errW_some] <;> rfl),bg HB.out GE101 GE101⟩
mutual
def q1.j0:Nat → Int → Int → Bool → List Int → List Int → Option (Bool)
 | 0,_,_,_,_,_=>none
 | k + 1,x1,x2,x21,x102000,x102001=>if x21 = true then (some false) else (q1.l0 k x1 x2 x102000 x102001)
def q1.l0:Nat → Int → Int → List Int → List Int → Option (Bool)
 | 0,_,_,_,_=>none
 | k + 1,x1,x2,x102000,x102001=>if x1 ≥ 0 then (if x1 = x2 then (some (x1 == x2)) else (if 0 ≤ x1 then (if x1 < (x102001.length:Int) then (q1.l0 k (rd x102001 x1) x2 x102000 x102001) else (none)) else (none))) else (some (x1 == x2))
end
def q1.f (k:Nat) (l0_0:List Int) (l0_1:List Int) (a1:Int) (a2:Int):Option (Bool):=(q4.f l0_0 l0_1 a1).bind fun t102=>(if t102 = true then (if a2 < (-1) then (q1.j0 k a1 a2 true l0_0 l0_1) else (q1.j0 k a1 a2 (decide (a2 ≥ (l0_0.length:Int))) l0_0 l0_1)) else (q1.j0 k a1 a2 true l0_0 l0_1))
set_option maxHeartbeats 8000000 in
set_option maxRecDepth 100000 in
theorem q1.calls (k:Nat) (A0_0:Option Addr) (c0_0:Nat) (l0_0:List Int) (A0_1:Option Addr) (c0_1:Nat) (l0_1:List Int) (a1:Int) (a2:Int) (r:Bool) (w:World) (hr0_0:Kd.C (Kd.int .i64) w A0_0 l0_0.length l0_0) (hc0_0:l0_0.length ≤ c0_0) (hr0_1:Kd.C (Kd.int .i64) w A0_1 l0_1.length l0_1) (hc0_1:l0_1.length ≤ c0_1) (h:q1.f k l0_0 l0_1 a1 a2 = some r) :
  Calls Try.prog 48 #[.agg #[.slice A0_0 l0_0.length c0_0,.slice A0_1 l0_1.length c0_1],.int .i64 a1,.int .i64 a2] w fun e w'=>e = .returned (.bool r) ∧ Below w.heap.size w w':=by
 have hu25:=Try.underlying25
 have HR0_0:=Aside0.mk hr0_0
 have HC0_0:=Aside0.mk hc0_0
 clear hr0_0 hc0_0
 have HR0_1:=Aside0.mk hr0_1
 have HC0_1:=Aside0.mk hc0_1
 clear hr0_1 hc0_1
 have HB:=zk (Below.refl w.heap.size w)
 have H:((q4.f l0_0 l0_1 a1).bind fun t102=>(if t102 = true then (if a2 < (-1) then (q1.j0 k a1 a2 true l0_0 l0_1) else (q1.j0 k a1 a2 (decide (a2 ≥ (l0_0.length:Int))) l0_0 l0_1)) else (q1.j0 k a1 a2 true l0_0 l0_1))) = some r:=h
 clear h
 have HC4:=Aside0.mk H
 clear H
 go_enter Try.func48,Try.ntmps48
 go_upto_region 1 with (first|((with_reducible refine gate_dst (N:=3) rfl ?_);(try (refine gate_guard (by rfl) ?_;dsimp only));refine box_event ?hg (N:=3) ?hd (cs:=#[.slice A0_0 l0_0.length c0_0,.slice A0_1 l0_1.length c0_1]) (t:=25) ?hr ?_;(case hd=>rfl);(case hg=>rfl);(case hr=>first|(go_simp;done)|(go_simp;rfl));intro gb101 hg w5 hbox hb;have n0_:=zk (below_step (bq HB.out) hb);have n1_:=zk (hbox);have n2_:=zk ((by rw [hg];exact (below_size (bq HB.out)):w.heap.size ≤ gb101));have n3_:=zk ((by rw [hg];exact (below_size (bq HB.out)):w.heap.size ≤ gb101));clear HB;have HB:=n0_;have BK101:=n1_;have GW101:=n2_;have GE101:=n3_;clear n0_ n1_ n2_ n3_;clear hb hbox hg))
 (try simp only [Act.put,List.setIfInBounds_toArray,List.set_cons_zero,List.set_cons_succ])
 go_cut [21] (fun v21 wc=>∃ (kq:Nat) (x21_3:Bool),v21 = .bool x21_3 ∧ Aside0 (q1.j0 kq a1 a2 x21_3 l0_0 l0_1 = some r) ∧ Aside0 (kq ≤ k) ∧ Aside0 (wc.heap[gb101]? = some (.cells #[(.slice A0_0 l0_0.length c0_0),(.slice A0_1 l0_1.length c0_1)] 25 (0,0))) ∧ Aside0 (Below w.heap.size w wc))
 case first =>
  have H:=HC4.out
  clear HC4
  replace H:=Option.bind_eq_some_iff.mp H
  obtain ⟨t102,A60,H⟩:=H
  replace H:(if t102 = true then (if a2 < (-1) then (q1.j0 k a1 a2 true l0_0 l0_1) else (q1.j0 k a1 a2 (decide (a2 ≥ (l0_0.length:Int))) l0_0 l0_1)) else (q1.j0 k a1 a2 true l0_0 l0_1)) = some r:=H
  have A6:=Aside0.mk A60
  clear A60
  by_cases c7:t102 = true
  ·subst c7
   have H1:(if a2 < (-1) then (q1.j0 k a1 a2 true l0_0 l0_1) else (q1.j0 k a1 a2 (decide (a2 ≥ (l0_0.length:Int))) l0_0 l0_1)) = some r:=by rw [if_pos rfl] at H;exact H
   clear H
   have H:=H1
   clear H1
   by_cases c8:a2 < (-1)
   ·rw [if_pos c8] at H
    have c8b0:decide (a2 < (-1)) = true:=decide_eq_true c8
    clear c8
    (first|rw [c8b0]|(simp only [i64_w,i32_w];rw [c8b0])|skip)
    have H':=Aside0.mk H
    clear H
    have hcz9_0:w5.cell? ⟨gb101,0,none⟩ = some (.slice A0_0 l0_0.length c0_0):=(blk_cell BK101.out 0).trans rfl
    have hcz9_1:w5.cell? ⟨gb101,1,none⟩ = some (.slice A0_1 l0_1.length c0_1):=(blk_cell BK101.out 1).trans rfl
    have hfz9_0:=blk_frozen BK101.out 0
    have hfz9_1:=blk_frozen BK101.out 1
    go_wp2_with (first|((with_reducible refine gate_callee (f:=54) rfl ?_);refine goesL_ (some 9) rfl rfl Try.func54 (by kernel_rfl) rfl #[.agg #[.slice A0_0 l0_0.length c0_0,.slice A0_1 l0_1.length c0_1],.int .i64 a1] rfl oF ?_;(with_reducible refine (q4.calls _ _ l0_0 _ _ l0_1 a1 true _ ?side1 ?side2 ?side3 ?side4 A6.out).mono ?_);(case side1=>exact cq (Kd.C_below HR0_0.out HB.out));(case side2=>exact HC0_0.out);(case side3=>exact cq (Kd.C_below HR0_1.out HB.out));(case side4=>exact HC0_1.out);rintro e w10 ⟨rfl,hb⟩;refine ⟨_,rfl,?_⟩;have n0_:=zk (blk_below (g:=gb101) (o:=.cells #[.slice A0_0 l0_0.length c0_0,.slice A0_1 l0_1.length c0_1] 25 (0,0)) (hq BK101.out) hb);have n1_:=zk (below_step (bg HB.out GE101 GE101) hb);clear BK101;clear HB;have BK101:=n0_;have HB:=n1_;clear n0_ n1_;(try clear hb);(try clear hb2);(try clear hk);(try clear hi)))
    go_meet
    case rel=>exact ⟨_,(true),oE,H',⟨by first|omega|exact Nat.le_refl _⟩,⟨hq BK101.out⟩,⟨bg HB.out GE101 GE101⟩⟩
   ·rw [if_neg c8] at H
    have c8b0:decide (a2 < (-1)) = false:=decide_eq_false c8
    clear c8
    (first|rw [c8b0]|(simp only [i64_w,i32_w];rw [c8b0])|skip)
    have H':=Aside0.mk H
    clear H
    have hcz11_0:w5.cell? ⟨gb101,0,none⟩ = some (.slice A0_0 l0_0.length c0_0):=(blk_cell BK101.out 0).trans rfl
    have hcz11_1:w5.cell? ⟨gb101,1,none⟩ = some (.slice A0_1 l0_1.length c0_1):=(blk_cell BK101.out 1).trans rfl
    have hfz11_0:=blk_frozen BK101.out 0
    have hfz11_1:=blk_frozen BK101.out 1
    go_wp2_with (first|((with_reducible refine gate_callee (f:=54) rfl ?_);refine goesL_ (some 9) rfl rfl Try.func54 (by kernel_rfl) rfl #[.agg #[.slice A0_0 l0_0.length c0_0,.slice A0_1 l0_1.length c0_1],.int .i64 a1] rfl oF ?_;(with_reducible refine (q4.calls _ _ l0_0 _ _ l0_1 a1 true _ ?side1 ?side2 ?side3 ?side4 A6.out).mono ?_);(case side1=>exact cq (Kd.C_below HR0_0.out HB.out));(case side2=>exact HC0_0.out);(case side3=>exact cq (Kd.C_below HR0_1.out HB.out));(case side4=>exact HC0_1.out);rintro e w12 ⟨rfl,hb⟩;refine ⟨_,rfl,?_⟩;have n0_:=zk (blk_below (g:=gb101) (o:=.cells #[.slice A0_0 l0_0.length c0_0,.slice A0_1 l0_1.length c0_1] 25 (0,0)) (hq BK101.out) hb);have n1_:=zk (below_step (bg HB.out GE101 GE101) hb);clear BK101;clear HB;have BK101:=n0_;have HB:=n1_;clear n0_ n1_;(try clear hb);(try clear hb2);(try clear hk);(try clear hi);have hcz13_0:w12.cell? ⟨gb101,0,none⟩ = some (.slice A0_0 l0_0.length c0_0):=(blk_cell BK101.out 0).trans rfl;have hcz13_1:w12.cell? ⟨gb101,1,none⟩ = some (.slice A0_1 l0_1.length c0_1):=(blk_cell BK101.out 1).trans rfl;have hfz13_0:=blk_frozen BK101.out 0;have hfz13_1:=blk_frozen BK101.out 1))
    go_meet
    case rel=>exact ⟨_,(decide (a2 ≥ (l0_0.length:Int))),oE,H',⟨by first|omega|exact Nat.le_refl _⟩,⟨hq BK101.out⟩,⟨bg HB.out GE101 GE101⟩⟩
  ·replace c7:=Bool.eq_false_iff.mpr c7
   subst c7
   have H1:(q1.j0 k a1 a2 true l0_0 l0_1) = some r:=by rw [if_neg (show ¬ (false = true) by decide)] at H;exact H
   clear H
   have H:=H1
   clear H1
   have H':=Aside0.mk H
   clear H
   have hcz14_0:w5.cell? ⟨gb101,0,none⟩ = some (.slice A0_0 l0_0.length c0_0):=(blk_cell BK101.out 0).trans rfl
   have hcz14_1:w5.cell? ⟨gb101,1,none⟩ = some (.slice A0_1 l0_1.length c0_1):=(blk_cell BK101.out 1).trans rfl
   have hfz14_0:=blk_frozen BK101.out 0
   have hfz14_1:=blk_frozen BK101.out 1
   go_wp2_with (first|((with_reducible refine gate_callee (f:=54) rfl ?_);refine goesL_ (some 9) rfl rfl Try.func54 (by kernel_rfl) rfl #[.agg #[.slice A0_0 l0_0.length c0_0,.slice A0_1 l0_1.length c0_1],.int .i64 a1] rfl oF ?_;(with_reducible refine (q4.calls _ _ l0_0 _ _ l0_1 a1 false _ ?side1 ?side2 ?side3 ?side4 A6.out).mono ?_);(case side1=>exact cq (Kd.C_below HR0_0.out HB.out));(case side2=>exact HC0_0.out);(case side3=>exact cq (Kd.C_below HR0_1.out HB.out));(case side4=>exact HC0_1.out);rintro e w15 ⟨rfl,hb⟩;refine ⟨_,rfl,?_⟩;have n0_:=zk (blk_below (g:=gb101) (o:=.cells #[.slice A0_0 l0_0.length c0_0,.slice A0_1 l0_1.length c0_1] 25 (0,0)) (hq BK101.out) hb);have n1_:=zk (below_step (bg HB.out GE101 GE101) hb);clear BK101;clear HB;have BK101:=n0_;have HB:=n1_;clear n0_ n1_;(try clear hb);(try clear hb2);(try clear hk);(try clear hi)))
   go_meet
   case rel=>exact ⟨_,(true),oE,H',⟨by first|omega|exact Nat.le_refl _⟩,⟨hq BK101.out⟩,⟨bg HB.out GE101 GE101⟩⟩
 case rest =>
  clear HC4
  try clear p2
  try clear c4
  try clear c5
  try clear c7
  try clear c8
  try clear c8b0
  try clear hcz11_0
  try clear hcz11_1
  try clear hcz13_0
  try clear hcz13_1
  try clear hcz14_0
  try clear hcz14_1
  try clear hcz9_0
  try clear hcz9_1
  try clear hfz11_0
  try clear hfz11_1
  try clear hfz13_0
  try clear hfz13_1
  try clear hfz14_0
  try clear hfz14_1
  try clear hfz9_0
  try clear hfz9_1
  obtain ⟨kq,x21_3,rfl,HA,HJ3,BK101,HB⟩:=hcut
  cases kq with
  | zero=>exact absurd HA.out (by simp [q1.j0])
  | succ kj3 =>
   have H:=HA.out
   clear HA
   simp only [q1.j0] at H
   by_cases c16:x21_3 = true
   ·subst c16
    have H1:(some false) = some r:=by rw [if_pos rfl] at H;exact H
    clear H
    have H:=H1
    clear H1
    obtain rfl:=Option.some.inj H
    go_wp2
    go_ret
    exact ⟨by first|rfl|(simp [errW_none,errW_some] <;> rfl)|(simp [*,errW_none,errW_some] <;> rfl),bg HB.out GE101 GE101⟩
   ·replace c16:=Bool.eq_false_iff.mpr c16
    subst c16
    have H1:(q1.l0 kj3 a1 a2 l0_0 l0_1) = some r:=by rw [if_neg (show ¬ (false = true) by decide)] at H;exact H
    clear H
    have H:=H1
    clear H1
    have H':=Aside0.mk H
    clear H
    go_wp2
    go_loopg [1] kj3 (fun kq v1 w'=>∃ (x1_2:Int),v1 = .int .i64 x1_2 ∧ Aside0 (q1.l0 kq x1_2 a2 l0_0 l0_1 = some r) ∧ Aside0 (kq ≤ kj3) ∧ Aside0 (w'.heap[gb101]? = some (.cells #[(.slice A0_0 l0_0.length c0_0),(.slice A0_1 l0_1.length c0_1)] 25 (0,0))) ∧ Aside0 (Below w.heap.size w w'))
    case atStart=>exact ⟨(a1),oE,H',⟨Nat.le_refl _⟩,⟨hq BK101.out⟩,⟨bg HB.out GE101 GE101⟩⟩
    case round =>
     clear H'
     try clear c1
     try clear p2
     try clear c4
     try clear c5
     try clear c7
     try clear c8
     try clear c8b0
     try clear c16
     try clear hcz11_0
     try clear hcz11_1
     try clear hcz13_0
     try clear hcz13_1
     try clear hcz14_0
     try clear hcz14_1
     try clear hcz9_0
     try clear hcz9_1
     try clear hfz11_0
     try clear hfz11_1
     try clear hfz13_0
     try clear hfz13_1
     try clear hfz14_0
     try clear hfz14_1
     try clear hfz9_0
     try clear hfz9_1
     try clear p2
     obtain ⟨x1_2,rfl,HA,HK2,BK101,HB⟩:=hrel
     cases gk with
     | zero=>exact absurd HA.out (by simp [q1.l0])
     | succ k2 =>
      have H:=HA.out
      clear HA
      simp only [q1.l0] at H
      by_cases c17:x1_2 ≥ 0
      ·rw [if_pos c17] at H
       have c17b0:decide (0 ≤ x1_2) = true:=decide_eq_true c17
       clear c17
       by_cases c18:x1_2 = a2
       ·rw [if_pos c18] at H
        have c18b0:(x1_2 == a2) = true:=beq_iff_eq.mpr c18
        have c18b1:(x1_2 != a2) = false:=bne_eq_false_iff_eq.mpr c18
        clear c18
        obtain rfl:=Option.some.inj H
        go_wp2
        go_ret
        exact ⟨by first|rfl|(simp [errW_none,errW_some] <;> rfl)|(simp [*,errW_none,errW_some] <;> rfl),bg HB.out GE101 GE101⟩
       ·rw [if_neg c18] at H
        have c18b0:(x1_2 == a2) = false:=beq_eq_false_iff_ne.mpr c18
        have c18b1:(x1_2 != a2) = true:=bne_iff_ne.mpr c18
        by_cases c19:0 ≤ x1_2
        ·rw [if_pos c19] at H
         have c19b0:decide (0 ≤ x1_2) = true:=decide_eq_true c19
         clear c19
         by_cases c20:x1_2 < (l0_1.length:Int)
         ·rw [if_pos c20] at H
          have c20b0:decide (x1_2 < (l0_1.length:Int)) = true:=decide_eq_true c20
          clear c20
          have H':=Aside0.mk H
          clear H
          have hcz21_0:wr.cell? ⟨gb101,0,none⟩ = some (.slice A0_0 l0_0.length c0_0):=(blk_cell BK101.out 0).trans rfl
          have hcz21_1:wr.cell? ⟨gb101,1,none⟩ = some (.slice A0_1 l0_1.length c0_1):=(blk_cell BK101.out 1).trans rfl
          have hfz21_0:=blk_frozen BK101.out 0
          have hfz21_1:=blk_frozen BK101.out 1
          have p103:0 ≤ (x1_2:Int):=oA
          have q103:x1_2 < (l0_1.length:Int):=oA
          obtain ⟨ad103,e103,hx103_0⟩:=Kd.at_int HR0_1.out x1_2 p103 q103
          cases e103
          replace hx103_0:=(HB.out.cell (World.block_lt_of_cell? w _ hx103_0)).trans hx103_0
          replace p103:=eq_true p103
          replace q103:=eq_true q103
          go_wp2
          go_roundg k2
          case measure=>have:=HJ3.out;have:=HK2.out;omega
          case rel=>exact ⟨(rd l0_1 x1_2),oE,H',⟨by have:=HJ3.out;have:=HK2.out;omega⟩,⟨hq BK101.out⟩,⟨bg HB.out GE101 GE101⟩⟩
         ·rw [if_neg c20] at H
          exact absurd H (by simp)
        ·rw [if_neg c19] at H
         exact absurd H (by simp)
      ·rw [if_neg c17] at H
       have c17b0:decide (0 ≤ x1_2) = false:=decide_eq_false c17
       clear c17
       obtain rfl:=Option.some.inj H
       go_wp2
       go_ret
       exact ⟨by first|rfl|(simp [errW_none,errW_some] <;> rfl)|(simp [*,errW_none,errW_some] <;> rfl),bg HB.out GE101 GE101⟩
end Go.Proofs.Ytnomeokicfpidaa.Q
