-- merged and slimmed by slim.py (a program of this repo)
import Derived.Test.YtnomeokicfpidaaKEnterTells9
namespace Go.Proofs.Ytnomeokicfpidaa.Q
open Go.RowKit Go.Proofs.YtnomeokicfpidaaW.PrintWords Go.Proofs.YtnomeokicfpidaaW.PrintLast Go.Proofs.YtnomeokicfpidaaW.PrintMore
attribute [local go_sem] max2_int min2_int max_two min_two max_three min_three max_four min_four
set_option linter.unusedVariables false
set_option linter.unusedSimpArgs false
mutual
def q12.l0:Nat → Int → Int → List Int → List Int → List Int → List Int → Int → Int → List Int → List Int → Option (List Int)
 | 0,_,_,_,_,_,_,_,_,_,_=>none
 | k + 1,x1,x2,x3,x9,x10,x24,x25,x26,x102000,x102001=>if x26 < x25 then (if 0 ≤ x26 then (if x26 < (x24.length:Int) then ((q3.f k x102000 x102001 x2 (rd x24 x26)).bind fun t115=>(if t115 = true then ((q12.f k x102000 x102001 (rd x24 x26) x2 x3).bind fun t116=>(if x9.length + t116.length < 17592186044416 then (q12.l0 k x1 x2 x3 (x9 ++ t116) x10 x24 x25 (wrap64 (x26 + 1)) x102000 x102001) else (none))) else (if 0 ≤ x1 then (if x1 < (x102000.length:Int) then (if (rd x102000 x1) = 2 then ((q9.f k x102000 x102001 (rd x24 x26) x3).bind fun t123=>(if x10.length + t123.length < 17592186044416 then (q12.l0 k x1 x2 x3 x9 (x10 ++ t123) x24 x25 (wrap64 (x26 + 1)) x102000 x102001) else (none))) else (q12.l0 k x1 x2 x3 x9 x10 x24 x25 (wrap64 (x26 + 1)) x102000 x102001)) else (none)) else (none)))) else (none)) else (none)) else (if x9.length + x10.length < 17592186044416 then (some (x9 ++ x10)) else (none))
def q12.f:Nat → List Int → List Int → Int → Int → List Int → Option (List Int)
 | 0,_,_,_,_,_=>none
 | k + 1,l0_0,l0_1,a1,a2,l3=>if a1 = a2 then ((q9.f k l0_0 l0_1 a2 l3).bind fun t102=>(some t102)) else ((q7.f k l0_0 l0_1 a1).bind fun t108=>(q12.l0 k a1 a2 l3 (([a1]:List Int)) ([]:List Int) t108 (t108.length:Int) 0 l0_0 l0_1))
end
set_option maxHeartbeats 8000000 in
set_option maxRecDepth 100000 in
theorem q12.calls (k:Nat):∀ (A0_0:Option Addr) (c0_0:Nat) (l0_0:List Int) (A0_1:Option Addr) (c0_1:Nat) (l0_1:List Int) (a1:Int) (a2:Int) (A3:Option Addr) (c3:Nat) (l3:List Int) (r:List Int) (w:World) (hr0_0:Kd.C (Kd.int .i64) w A0_0 l0_0.length l0_0) (hc0_0:l0_0.length ≤ c0_0) (hr0_1:Kd.C (Kd.int .i64) w A0_1 l0_1.length l0_1) (hc0_1:l0_1.length ≤ c0_1) (hr3:Kd.C (Kd.int .u32) w A3 l3.length l3) (hc3:l3.length ≤ c3) (h:q12.f k l0_0 l0_1 a1 a2 l3 = some r),
  Calls Try.prog 55 #[.agg #[.slice A0_0 l0_0.length c0_0,.slice A0_1 l0_1.length c0_1],.int .i64 a1,.int .i64 a2,.slice A3 l3.length c3] w fun e w'=>∃ v0_:Value,e = .returned (v0_) ∧ Kd.R (Kd.int .i64) 3 w' w.heap.size (fun _=>True) v0_ r ∧ Below w.heap.size w w':=by
 induction k using Nat.strongRecOn with
 | _ k ih =>
 intro A0_0 c0_0 l0_0 A0_1 c0_1 l0_1 a1 a2 A3 c3 l3 r w hr0_0 hc0_0 hr0_1 hc0_1 hr3 hc3 h
 cases k with
 | zero=>exact absurd h (by simp [q12.f])
 | succ k =>
 simp only [q12.f] at h
 have hu25:=Try.underlying25
 have HR0_0:=Aside0.mk hr0_0
 have HC0_0:=Aside0.mk hc0_0
 clear hr0_0 hc0_0
 have HR0_1:=Aside0.mk hr0_1
 have HC0_1:=Aside0.mk hc0_1
 clear hr0_1 hc0_1
 have HR3:=Aside0.mk hr3
 have HC3:=Aside0.mk hc3
 clear hr3 hc3
 have HB:=zk (Below.refl w.heap.size w)
 have H:(if a1 = a2 then ((q9.f k l0_0 l0_1 a2 l3).bind fun t102=>(some t102)) else ((q7.f k l0_0 l0_1 a1).bind fun t108=>(q12.l0 k a1 a2 l3 (([a1]:List Int)) ([]:List Int) t108 (t108.length:Int) 0 l0_0 l0_1))) = some r:=h
 clear h
 by_cases c5:a1 = a2
 ·rw [if_pos c5] at H
  have c5b0:(a1 == a2) = true:=beq_iff_eq.mpr c5
  have c5b1:(a1 != a2) = false:=bne_eq_false_iff_eq.mpr c5
  clear c5
  replace H:=Option.bind_eq_some_iff.mp H
  obtain ⟨t102,A60,H⟩:=H
  replace H:(some t102) = some r:=H
  have A6:=Aside0.mk A60
  clear A60
  obtain rfl:=Option.some.inj H
  go_enter Try.func55,Try.ntmps55
  go_wp2_with (first|((with_reducible refine gate_dst (N:=4) rfl ?_);refine box_event ?hg (N:=4) ?hd (cs:=#[.slice A0_0 l0_0.length c0_0,.slice A0_1 l0_1.length c0_1]) (t:=25) ?hr ?_;(case hd=>rfl);(case hg=>rfl);(case hr=>first|(go_simp;done)|(go_simp;rfl));intro gb101 hg w7 hbox hb;have n0_:=zk (below_step (bq HB.out) hb);have n1_:=zk (hbox);have n2_:=zk ((by rw [hg];exact (below_size (bq HB.out)):w.heap.size ≤ gb101));have n3_:=zk ((by rw [hg];exact (below_size (bq HB.out)):w.heap.size ≤ gb101));clear HB;have HB:=n0_;have BK101:=n1_;have GW101:=n2_;have GE101:=n3_;clear n0_ n1_ n2_ n3_;clear hb hbox hg;have hcz8_0:w7.cell? ⟨gb101,0,none⟩ = some (.slice A0_0 l0_0.length c0_0):=(blk_cell BK101.out 0).trans rfl;have hcz8_1:w7.cell? ⟨gb101,1,none⟩ = some (.slice A0_1 l0_1.length c0_1):=(blk_cell BK101.out 1).trans rfl;have hfz8_0:=blk_frozen BK101.out 0;have hfz8_1:=blk_frozen BK101.out 1)|((with_reducible refine gate_callee (f:=56) rfl ?_);refine goesL_ (some 19) rfl rfl Try.func56 (by kernel_rfl) rfl #[.agg #[.slice A0_0 l0_0.length c0_0,.slice A0_1 l0_1.length c0_1],.int .i64 a2,.slice A3 l3.length c3] rfl oF ?_;(with_reducible refine (q9.calls k _ _ l0_0 _ _ l0_1 a2 _ _ l3 t102 _ ?side1 ?side2 ?side3 ?side4 ?side5 ?side6 A6.out).mono ?_);(case side1=>exact cq (Kd.C_below HR0_0.out HB.out));(case side2=>exact HC0_0.out);(case side3=>exact cq (Kd.C_below HR0_1.out HB.out));(case side4=>exact HC0_1.out);(case side5=>exact cq (Kd.C_below HR3.out HB.out));(case side6=>exact HC3.out);rintro e w9 ⟨v103,rfl,ho0,hb⟩;refine ⟨_,rfl,?_⟩;have n0_:=zk (Kd.R_lower ho0 (below_size (bg HB.out GE101 GE101)));have n1_:=zk (blk_below (g:=gb101) (o:=.cells #[.slice A0_0 l0_0.length c0_0,.slice A0_1 l0_1.length c0_1] 25 (0,0)) (hq BK101.out) hb);have n2_:=zk (below_step (bg HB.out GE101 GE101) hb);clear BK101;clear HB;have HO104:=n0_;have BK101:=n1_;have HB:=n2_;clear n0_ n1_ n2_;(try clear hb);(try clear hb2);(try clear hk);(try clear hi);(try clear ho0)))
  go_ret
  exact ⟨_,by first|rfl|(simp [errW_none,errW_some] <;> rfl)|(simp [*,errW_none,errW_some] <;> rfl),rq HO104.out,bg HB.out GE101 GE101⟩
 ·rw [if_neg c5] at H
  have c5b0:(a1 == a2) = false:=beq_eq_false_iff_ne.mpr c5
  have c5b1:(a1 != a2) = true:=bne_iff_ne.mpr c5
  obtain ⟨y105,hy105⟩:∃ y_:List Int,y_ = (([a1]:List Int)):=⟨_,rfl⟩
  replace H:((q7.f k l0_0 l0_1 a1).bind fun t108=>(q12.l0 k a1 a2 l3 y105 ([]:List Int) t108 (t108.length:Int) 0 l0_0 l0_1)) = some r:=by first|(rw [hy105];with_reducible exact H)|(have H2_:=(Option.bind_some _ _).symm.trans H;rw [hy105];with_reducible exact H2_)|(have H2_:=(Option.bind_some _ _).symm.trans H;with_reducible exact H2_)|with_reducible exact H|(rw [hy105];exact H)|exact H
  have Ny105:=Aside0.mk hy105
  clear hy105
  replace H:=Option.bind_eq_some_iff.mp H
  obtain ⟨t108,A100,H⟩:=H
  replace H:(q12.l0 k a1 a2 l3 y105 ([]:List Int) t108 (t108.length:Int) 0 l0_0 l0_1) = some r:=H
  have A10:=Aside0.mk A100
  clear A100
  have H':=Aside0.mk H
  clear H
  go_enter Try.func55,Try.ntmps55
  go_wp2_with (first|((with_reducible refine gate_dst (N:=4) rfl ?_);refine box_event ?hg (N:=4) ?hd (cs:=#[.slice A0_0 l0_0.length c0_0,.slice A0_1 l0_1.length c0_1]) (t:=25) ?hr ?_;(case hd=>rfl);(case hg=>rfl);(case hr=>first|(go_simp;done)|(go_simp;rfl));intro gb101 hg w11 hbox hb;have n0_:=zk (below_step (bq HB.out) hb);have n1_:=zk (hbox);have n2_:=zk ((by rw [hg];exact (below_size (bq HB.out)):w.heap.size ≤ gb101));have n3_:=zk ((by rw [hg];exact (below_size (bq HB.out)):w.heap.size ≤ gb101));clear HB;have HB:=n0_;have BK101:=n1_;have GW101:=n2_;have GE101:=n3_;clear n0_ n1_ n2_ n3_;clear hb hbox hg)|((with_reducible refine gate_dst (N:=21) rfl ?_);refine Kd.R_lit (Kd.int .i64) _ 3 ?hg (N:=21) ?hd (xs:=([a1]:List Int)) (inner:=[.int .i64 a1]) (ok:=fun _=>True) (okp:=fun _=>True) ?hr ?hp (fun _ hk=>hk) trivial (Below.refl _ _) (Nat.le_refl _) (by simp) ?_;(case hd=>rfl);(case hg=>rfl);(case hr=>first|(go_simp;done)|(go_simp;rfl));(case hp=>exact (Reps.one (show Kd.M (Kd.int .i64) _ _ _ a1 [.int .i64 a1] from rfl) (Reps.none _ _)));intro v106 w12 ho13 hb hg_ hnew_;clear hg_ hnew_;(first|rw [← Ny105.out] at ho13|(simp only [Int.reduceToNat] at ho13;rw [← Ny105.out] at ho13));have n0_:=zk (Kd.R_lower ho13 (below_size (bg HB.out GE101 GE101)));have n1_:=zk (blk_below (g:=gb101) (o:=.cells #[.slice A0_0 l0_0.length c0_0,.slice A0_1 l0_1.length c0_1] 25 (0,0)) (hq BK101.out) hb);have n2_:=zk (below_step (bg HB.out GE101 GE101) hb);clear BK101;clear HB;have HO107:=n0_;have BK101:=n1_;have HB:=n2_;clear n0_ n1_ n2_;clear hb ho13;have hcz14_0:w12.cell? ⟨gb101,0,none⟩ = some (.slice A0_0 l0_0.length c0_0):=(blk_cell BK101.out 0).trans rfl;have hcz14_1:w12.cell? ⟨gb101,1,none⟩ = some (.slice A0_1 l0_1.length c0_1):=(blk_cell BK101.out 1).trans rfl;have hfz14_0:=blk_frozen BK101.out 0;have hfz14_1:=blk_frozen BK101.out 1)|((with_reducible refine gate_callee (f:=46) rfl ?_);refine goesL_ (some 24) rfl rfl Try.func46 (by kernel_rfl) rfl #[.agg #[.slice A0_0 l0_0.length c0_0,.slice A0_1 l0_1.length c0_1],.int .i64 a1] rfl oF ?_;(with_reducible refine (q7.calls k _ _ l0_0 _ _ l0_1 a1 t108 _ ?side1 ?side2 ?side3 ?side4 A10.out).mono ?_);(case side1=>exact cq (Kd.C_below HR0_0.out HB.out));(case side2=>exact HC0_0.out);(case side3=>exact cq (Kd.C_below HR0_1.out HB.out));(case side4=>exact HC0_1.out);rintro e w15 ⟨v109,rfl,ho0,hb⟩;refine ⟨_,rfl,?_⟩;have n0_:=zk (Kd.R_elder' (rq HO107.out) (Kd.R_base ho0) hb);have n1_:=zk (Kd.R_lower (Kd.R_new' ho0 (Kd.R_lt (rq HO107.out))) (below_size (bg HB.out GE101 GE101)));have n2_:=zk (blk_below (g:=gb101) (o:=.cells #[.slice A0_0 l0_0.length c0_0,.slice A0_1 l0_1.length c0_1] 25 (0,0)) (hq BK101.out) hb);have n3_:=zk (below_step (bg HB.out GE101 GE101) hb);clear HO107;clear BK101;clear HB;have HO107:=n0_;have HO110:=n1_;have BK101:=n2_;have HB:=n3_;clear n0_ n1_ n2_ n3_;(try clear hb);(try clear hb2);(try clear hk);(try clear hi);(try clear ho0);obtain ⟨Ao16,co16,eo16⟩:=Kd.R_slice HO110.out;subst eo16))
  go_loopg [9,10,26] k (fun kq v9 v10 v26 w'=>∃ (x9_1:List Int) (x10_1:List Int) (x26_1:Int),v26 = .int .i64 x26_1 ∧ Aside0 (q12.l0 kq a1 a2 l3 x9_1 x10_1 t108 (t108.length:Int) x26_1 l0_0 l0_1 = some r) ∧ Aside0 (kq ≤ k) ∧ Aside0 (Kd.R (Kd.int .i64) 3 w' w.heap.size (fun k_=>some k_ ≠ (v10:Value).ownBlock ∧ some k_ ≠ ((.slice Ao16 t108.length co16):Value).ownBlock) v9 x9_1) ∧ Aside0 (Kd.R (Kd.int .i64) 3 w' w.heap.size (fun k_=>some k_ ≠ (v9:Value).ownBlock ∧ some k_ ≠ ((.slice Ao16 t108.length co16):Value).ownBlock) v10 x10_1) ∧ Aside0 (Kd.R (Kd.int .i64) 3 w' w.heap.size (fun k_=>some k_ ≠ (v9:Value).ownBlock ∧ some k_ ≠ (v10:Value).ownBlock) (.slice Ao16 t108.length co16) t108) ∧ Aside0 (w'.heap[gb101]? = some (.cells #[(.slice A0_0 l0_0.length c0_0),(.slice A0_1 l0_1.length c0_1)] 25 (0,0))) ∧ Aside0 (Below w.heap.size w w'))
  case atStart=>exact ⟨(y105),(([]:List Int)),(0),oE,H',⟨Nat.le_refl _⟩,⟨rq (Kd.R_mono HO107.out (fun _ hk=>⟨(by simp [Value.ownBlock]),hk.2⟩))⟩,⟨by first|exact Kd.R_nil _ _ _ _ _|exact Kd.N_nil _ _ _ _ _|exact Kd.V_nil _ _ _ _ _|exact Kd.Q_nil _ _ _ _ _|exact Kd.S_nil _ _ _ _ _⟩,⟨rq (Kd.R_mono HO110.out (fun _ hk=>⟨hk.2,(by simp [Value.ownBlock])⟩))⟩,⟨hq BK101.out⟩,⟨bg HB.out GE101 GE101⟩⟩
  case round =>
   clear H'
   try clear p2
   try clear c3
   try clear c4
   try clear c5
   try clear c5b0
   try clear c5b1
   try clear hcz14_0
   try clear hcz14_1
   try clear hcz8_0
   try clear hcz8_1
   try clear hfz14_0
   try clear hfz14_1
   try clear hfz8_0
   try clear hfz8_1
   obtain ⟨x9_1,x10_1,x26_1,rfl,HA,HK1,HO_9,HO_10,HO_24,BK101,HB⟩:=hrel
   cases gk with
   | zero=>exact absurd HA.out (by simp [q12.l0])
   | succ k1 =>
    have H:=HA.out
    clear HA
    simp only [q12.l0] at H
    by_cases c17:x26_1 < (t108.length:Int)
    ·rw [if_pos c17] at H
     have c17b0:decide (x26_1 < (t108.length:Int)) = true:=decide_eq_true c17
     clear c17
     by_cases c18:0 ≤ x26_1
     ·rw [if_pos c18] at H
      have c18b0:decide (0 ≤ x26_1) = true:=decide_eq_true c18
      clear c18
      by_cases c19:x26_1 < (t108.length:Int)
      ·rw [if_pos c19] at H
       have c19b0:decide (x26_1 < (t108.length:Int)) = true:=decide_eq_true c19
       clear c19
       replace H:=Option.bind_eq_some_iff.mp H
       obtain ⟨t115,A200,H⟩:=H
       replace H:(if t115 = true then ((q12.f k1 l0_0 l0_1 (rd t108 x26_1) a2 l3).bind fun t116=>(if x9_1.length + t116.length < 17592186044416 then (q12.l0 k1 a1 a2 l3 (x9_1 ++ t116) x10_1 t108 (t108.length:Int) (wrap64 (x26_1 + 1)) l0_0 l0_1) else (none))) else (if 0 ≤ a1 then (if a1 < (l0_0.length:Int) then (if (rd l0_0 a1) = 2 then ((q9.f k1 l0_0 l0_1 (rd t108 x26_1) l3).bind fun t123=>(if x10_1.length + t123.length < 17592186044416 then (q12.l0 k1 a1 a2 l3 x9_1 (x10_1 ++ t123) t108 (t108.length:Int) (wrap64 (x26_1 + 1)) l0_0 l0_1) else (none))) else (q12.l0 k1 a1 a2 l3 x9_1 x10_1 t108 (t108.length:Int) (wrap64 (x26_1 + 1)) l0_0 l0_1)) else (none)) else (none))) = some r:=H
       have A20:=Aside0.mk A200
       clear A200
       by_cases c21:t115 = true
       ·subst c21
        have H1:((q12.f k1 l0_0 l0_1 (rd t108 x26_1) a2 l3).bind fun t116=>(if x9_1.length + t116.length < 17592186044416 then (q12.l0 k1 a1 a2 l3 (x9_1 ++ t116) x10_1 t108 (t108.length:Int) (wrap64 (x26_1 + 1)) l0_0 l0_1) else (none))) = some r:=by rw [if_pos rfl] at H;exact H
        clear H
        have H:=H1
        clear H1
        replace H:=Option.bind_eq_some_iff.mp H
        obtain ⟨t116,A220,H⟩:=H
        replace H:(if x9_1.length + t116.length < 17592186044416 then (q12.l0 k1 a1 a2 l3 (x9_1 ++ t116) x10_1 t108 (t108.length:Int) (wrap64 (x26_1 + 1)) l0_0 l0_1) else (none)) = some r:=H
        have A22:=Aside0.mk A220
        clear A220
        by_cases c23:x9_1.length + t116.length < 17592186044416
        ·rw [if_pos c23] at H
         have LMc23:=Aside0.mk c23
         clear c23
         obtain ⟨y119,hy119⟩:∃ y_:List Int,y_ = (x9_1 ++ t116):=⟨_,rfl⟩
         replace H:(q12.l0 k1 a1 a2 l3 y119 x10_1 t108 (t108.length:Int) (wrap64 (x26_1 + 1)) l0_0 l0_1) = some r:=by first|(rw [hy119];with_reducible exact H)|(have H2_:=(Option.bind_some _ _).symm.trans H;rw [hy119];with_reducible exact H2_)|(have H2_:=(Option.bind_some _ _).symm.trans H;with_reducible exact H2_)|with_reducible exact H|(rw [hy119];exact H)|exact H
         have Ny119:=Aside0.mk hy119
         clear hy119
         have H':=Aside0.mk H
         clear H
         have p114:0 ≤ (x26_1:Int):=oA
         have q114:x26_1 < (t108.length:Int):=oA
         obtain ⟨ad114,e114,hx114_0⟩:=Kd.at_int (Kd.R_reads' HO_24.out).2.2 x26_1 p114 q114
         cases e114
         replace p114:=eq_true p114
         replace q114:=eq_true q114
         have hcz24_0:wr.cell? ⟨gb101,0,none⟩ = some (.slice A0_0 l0_0.length c0_0):=(blk_cell BK101.out 0).trans rfl
         have hcz24_1:wr.cell? ⟨gb101,1,none⟩ = some (.slice A0_1 l0_1.length c0_1):=(blk_cell BK101.out 1).trans rfl
         have hfz24_0:=blk_frozen BK101.out 0
         have hfz24_1:=blk_frozen BK101.out 1
         go_wp2_with (first|((with_reducible refine gate_callee (f:=48) rfl ?_);refine goesL_ (some 33) rfl rfl Try.func48 (by kernel_rfl) rfl #[.agg #[.slice A0_0 l0_0.length c0_0,.slice A0_1 l0_1.length c0_1],.int .i64 a2,.int .i64 (rd t108 x26_1)] rfl oF ?_;(with_reducible refine (q3.calls k1 _ _ l0_0 _ _ l0_1 a2 (rd t108 x26_1) true _ ?side1 ?side2 ?side3 ?side4 A20.out).mono ?_);(case side1=>exact cq (Kd.C_below HR0_0.out HB.out));(case side2=>exact HC0_0.out);(case side3=>exact cq (Kd.C_below HR0_1.out HB.out));(case side4=>exact HC0_1.out);rintro e w25 ⟨rfl,hb⟩;refine ⟨_,rfl,?_⟩;have n0_:=zk (Kd.R_below (rq HO_9.out) hb);have n1_:=zk (Kd.R_below (rq HO_10.out) hb);have n2_:=zk (Kd.R_below (rq HO_24.out) hb);have n3_:=zk (blk_below (g:=gb101) (o:=.cells #[.slice A0_0 l0_0.length c0_0,.slice A0_1 l0_1.length c0_1] 25 (0,0)) (hq BK101.out) hb);have n4_:=zk (below_step (bg HB.out GE101 GE101) hb);clear HO_9;clear HO_10;clear HO_24;clear BK101;clear HB;have HO_9:=n0_;have HO_10:=n1_;have HO_24:=n2_;have BK101:=n3_;have HB:=n4_;clear n0_ n1_ n2_ n3_ n4_;(try clear hb);(try clear hb2);(try clear hk);(try clear hi);have hcz26_0:w25.cell? ⟨gb101,0,none⟩ = some (.slice A0_0 l0_0.length c0_0):=(blk_cell BK101.out 0).trans rfl;have hcz26_1:w25.cell? ⟨gb101,1,none⟩ = some (.slice A0_1 l0_1.length c0_1):=(blk_cell BK101.out 1).trans rfl;have hfz26_0:=blk_frozen BK101.out 0;have hfz26_1:=blk_frozen BK101.out 1)|((with_reducible refine gate_callee (f:=55) rfl ?_);refine goesL_ (some 39) rfl rfl Try.func55 (by kernel_rfl) rfl #[.agg #[.slice A0_0 l0_0.length c0_0,.slice A0_1 l0_1.length c0_1],.int .i64 (rd t108 x26_1),.int .i64 a2,.slice A3 l3.length c3] rfl oF ?_;(with_reducible refine (ih k1 (by have:=HK1.out;omega) _ _ l0_0 _ _ l0_1 (rd t108 x26_1) a2 _ _ l3 t116 _ ?side1 ?side2 ?side3 ?side4 ?side5 ?side6 A22.out).mono ?_);(case side1=>exact cq (Kd.C_below HR0_0.out HB.out));(case side2=>exact HC0_0.out);(case side3=>exact cq (Kd.C_below HR0_1.out HB.out));(case side4=>exact HC0_1.out);(case side5=>exact cq (Kd.C_below HR3.out HB.out));(case side6=>exact HC3.out);rintro e w27 ⟨v117,rfl,ho0,hb⟩;refine ⟨_,rfl,?_⟩;have n0_:=zk (Kd.R_elder' (rq HO_9.out) (Kd.R_base ho0) hb);have n1_:=zk (Kd.R_elder' (rq HO_10.out) (Kd.R_base ho0) hb);have n2_:=zk (Kd.R_elder' (rq HO_24.out) (Kd.R_base ho0) hb);have n3_:=zk (Kd.R_lower (Kd.R_new' (Kd.R_new' (Kd.R_new' ho0 (Kd.R_lt (rq HO_9.out))) (Kd.R_lt (rq HO_10.out))) (Kd.R_lt (rq HO_24.out))) (below_size (bg HB.out GE101 GE101)));have n4_:=zk (blk_below (g:=gb101) (o:=.cells #[.slice A0_0 l0_0.length c0_0,.slice A0_1 l0_1.length c0_1] 25 (0,0)) (hq BK101.out) hb);have n5_:=zk (below_step (bg HB.out GE101 GE101) hb);clear HO_9;clear HO_10;clear HO_24;clear BK101;clear HB;have HO_9:=n0_;have HO_10:=n1_;have HO_24:=n2_;have HO118:=n3_;have BK101:=n4_;have HB:=n5_;clear n0_ n1_ n2_ n3_ n4_ n5_;(try clear hb);(try clear hb2);(try clear hk);(try clear hi);(try clear ho0);obtain ⟨Ao29,co29,eo29⟩:=Kd.R_slice HO118.out;subst eo29)|((with_reducible refine gate_builtin (b:=.append) (xs:=#[.tmp 34,.tmp 39]) rfl ?_);at_builtin;refine Kd.R_append_rows (Kd.int .i64) (w0:=w) w.heap.size rfl (.tmp 34) (.tmp 39) 22 3 (.int .i64 0) 8 rfl Try.underlying22 info3 rfl (by decide) (by omega) u9 x9_1 t116 _ _ _ (fun k_=>some k_ ≠ (u10:Value).ownBlock ∧ some k_ ≠ (.slice (some ad114) t108.length co16:Value).ownBlock ∧ some k_ ≠ (.slice Ao29 t116.length co29:Value).ownBlock) (fun _=>False) rfl rfl ?aO ?aR (fun _ _ h=>h) (fun _ h=>h.elim) ?aF ?aB ?aS ?aL ?_;(case aR=>exact cq ((Kd.R_reads' HO118.out).2.2));(case aB=>exact (bg HB.out GE101 GE101));(case aF=>exact (fun k_ hk=>⟨Kd.fresh' (Kd.R_lt (rq HO_10.out)) k_ hk,Kd.fresh' (Kd.R_lt (rq HO_24.out)) k_ hk,Kd.fresh' (Kd.R_lt (rq HO118.out)) k_ hk⟩));(case aO=>exact (rq (Kd.R_mono HO_9.out (fun _ hk=>⟨hk.1.1,⟨hk.1.2,hk.2⟩⟩))));(case aS=>exact (below_size (bg HB.out GE101 GE101)));(case aL=>have:=LMc23.out;omega);intro v120 w28 ho hb hg hat;rw [← Ny119.out] at ho;have n0_:=zk (Kd.R_after (ok:=(fun k_=>some k_ ≠ (.slice (some ad114) t108.length co16:Value).ownBlock ∧ some k_ ≠ (.slice Ao29 t116.length co29:Value).ownBlock)) (rq (Kd.R_mono HO_10.out (fun _ hk=>⟨⟨hk.1.2,hk.2⟩,hk.1.1⟩))) hg hat);have n1_:=zk (Kd.R_after (ok:=(fun k_=>some k_ ≠ (u10:Value).ownBlock ∧ some k_ ≠ (.slice Ao29 t116.length co29:Value).ownBlock)) (rq (Kd.R_mono HO_24.out (fun _ hk=>⟨⟨hk.1.2,hk.2⟩,hk.1.1⟩))) hg hat);have n2_:=zk (blk_grown (g:=gb101) (o:=.cells #[.slice A0_0 l0_0.length c0_0,.slice A0_1 l0_1.length c0_1] 25 (0,0)) (hq BK101.out) hg (Kd.R_ne HO_9.out BK101.out (by decide)));have n3_:=zk (Kd.R_after (ok:=(fun k_=>some k_ ≠ (u10:Value).ownBlock ∧ some k_ ≠ (.slice (some ad114) t108.length co16:Value).ownBlock)) (rq (Kd.R_mono HO118.out (fun _ hk=>⟨⟨hk.1.2,hk.2⟩,hk.1.1.2⟩))) hg hat);have n4_:=zk (hb);have n5_:=zk (ho);clear HO_10;clear HO_24;clear BK101;clear HO118;clear HB;clear HO_9;have HO_10:=n0_;have HO_24:=n1_;have BK101:=n2_;have HO118:=n3_;have HB:=n4_;have HO121:=n5_;clear n0_ n1_ n2_ n3_ n4_ n5_;clear ho hb hg hat))
         go_roundg k1
         case measure=>have:=HK1.out;omega
         case rel=>exact ⟨(y119),(x10_1),(wrap64 (x26_1 + 1)),oE,H',⟨by have:=HK1.out;omega⟩,⟨rq (Kd.R_mono HO121.out (fun _ hk=>⟨hk.1,hk.2.1⟩))⟩,⟨rq (Kd.R_mono HO_10.out (fun _ hk=>⟨hk.2,hk.1.1⟩))⟩,⟨rq (Kd.R_mono HO_24.out (fun _ hk=>⟨hk.2,hk.1.1⟩))⟩,⟨hq BK101.out⟩,⟨bg HB.out GE101 GE101⟩⟩
        ·rw [if_neg c23] at H
         exact absurd H (by simp)
       ·replace c21:=Bool.eq_false_iff.mpr c21
        subst c21
        have H1:(if 0 ≤ a1 then (if a1 < (l0_0.length:Int) then (if (rd l0_0 a1) = 2 then ((q9.f k1 l0_0 l0_1 (rd t108 x26_1) l3).bind fun t123=>(if x10_1.length + t123.length < 17592186044416 then (q12.l0 k1 a1 a2 l3 x9_1 (x10_1 ++ t123) t108 (t108.length:Int) (wrap64 (x26_1 + 1)) l0_0 l0_1) else (none))) else (q12.l0 k1 a1 a2 l3 x9_1 x10_1 t108 (t108.length:Int) (wrap64 (x26_1 + 1)) l0_0 l0_1)) else (none)) else (none)) = some r:=by rw [if_neg (show ¬ (false = true) by decide)] at H;exact H
        clear H
        have H:=H1
        clear H1
        by_cases c30:0 ≤ a1
        ·rw [if_pos c30] at H
         have c30b0:decide (0 ≤ a1) = true:=decide_eq_true c30
         clear c30
         by_cases c31:a1 < (l0_0.length:Int)
         ·rw [if_pos c31] at H
          have c31b0:decide (a1 < (l0_0.length:Int)) = true:=decide_eq_true c31
          clear c31
          by_cases c32:(rd l0_0 a1) = 2
          ·rw [if_pos c32] at H
           have c32b0:((rd l0_0 a1) == 2) = true:=beq_iff_eq.mpr c32
           have c32b1:((rd l0_0 a1) != 2) = false:=bne_eq_false_iff_eq.mpr c32
           clear c32
           replace H:=Option.bind_eq_some_iff.mp H
           obtain ⟨t123,A330,H⟩:=H
           replace H:(if x10_1.length + t123.length < 17592186044416 then (q12.l0 k1 a1 a2 l3 x9_1 (x10_1 ++ t123) t108 (t108.length:Int) (wrap64 (x26_1 + 1)) l0_0 l0_1) else (none)) = some r:=H
           have A33:=Aside0.mk A330
           clear A330
           by_cases c34:x10_1.length + t123.length < 17592186044416
           ·rw [if_pos c34] at H
            have LMc34:=Aside0.mk c34
            clear c34
            obtain ⟨y126,hy126⟩:∃ y_:List Int,y_ = (x10_1 ++ t123):=⟨_,rfl⟩
            replace H:(q12.l0 k1 a1 a2 l3 x9_1 y126 t108 (t108.length:Int) (wrap64 (x26_1 + 1)) l0_0 l0_1) = some r:=by first|(rw [hy126];with_reducible exact H)|(have H2_:=(Option.bind_some _ _).symm.trans H;rw [hy126];with_reducible exact H2_)|(have H2_:=(Option.bind_some _ _).symm.trans H;with_reducible exact H2_)|with_reducible exact H|(rw [hy126];exact H)|exact H
            have Ny126:=Aside0.mk hy126
            clear hy126
            have H':=Aside0.mk H
            clear H
            have p114:0 ≤ (x26_1:Int):=oA
            have q114:x26_1 < (t108.length:Int):=oA
            obtain ⟨ad114,e114,hx114_0⟩:=Kd.at_int (Kd.R_reads' HO_24.out).2.2 x26_1 p114 q114
            cases e114
            replace p114:=eq_true p114
            replace q114:=eq_true q114
            have hcz35_0:wr.cell? ⟨gb101,0,none⟩ = some (.slice A0_0 l0_0.length c0_0):=(blk_cell BK101.out 0).trans rfl
            have hcz35_1:wr.cell? ⟨gb101,1,none⟩ = some (.slice A0_1 l0_1.length c0_1):=(blk_cell BK101.out 1).trans rfl
            have hfz35_0:=blk_frozen BK101.out 0
            have hfz35_1:=blk_frozen BK101.out 1
            go_wp2_with (first|((with_reducible refine gate_callee (f:=48) rfl ?_);refine goesL_ (some 33) rfl rfl Try.func48 (by kernel_rfl) rfl #[.agg #[.slice A0_0 l0_0.length c0_0,.slice A0_1 l0_1.length c0_1],.int .i64 a2,.int .i64 (rd t108 x26_1)] rfl oF ?_;(with_reducible refine (q3.calls k1 _ _ l0_0 _ _ l0_1 a2 (rd t108 x26_1) false _ ?side1 ?side2 ?side3 ?side4 A20.out).mono ?_);(case side1=>exact cq (Kd.C_below HR0_0.out HB.out));(case side2=>exact HC0_0.out);(case side3=>exact cq (Kd.C_below HR0_1.out HB.out));(case side4=>exact HC0_1.out);rintro e w36 ⟨rfl,hb⟩;refine ⟨_,rfl,?_⟩;have n0_:=zk (Kd.R_below (rq HO_9.out) hb);have n1_:=zk (Kd.R_below (rq HO_10.out) hb);have n2_:=zk (Kd.R_below (rq HO_24.out) hb);have n3_:=zk (blk_below (g:=gb101) (o:=.cells #[.slice A0_0 l0_0.length c0_0,.slice A0_1 l0_1.length c0_1] 25 (0,0)) (hq BK101.out) hb);have n4_:=zk (below_step (bg HB.out GE101 GE101) hb);clear HO_9;clear HO_10;clear HO_24;clear BK101;clear HB;have HO_9:=n0_;have HO_10:=n1_;have HO_24:=n2_;have BK101:=n3_;have HB:=n4_;clear n0_ n1_ n2_ n3_ n4_;(try clear hb);(try clear hb2);(try clear hk);(try clear hi);have hcz37_0:w36.cell? ⟨gb101,0,none⟩ = some (.slice A0_0 l0_0.length c0_0):=(blk_cell BK101.out 0).trans rfl;have hcz37_1:w36.cell? ⟨gb101,1,none⟩ = some (.slice A0_1 l0_1.length c0_1):=(blk_cell BK101.out 1).trans rfl;have hfz37_0:=blk_frozen BK101.out 0;have hfz37_1:=blk_frozen BK101.out 1;have p122:0 ≤ (a1:Int):=oA;have q122:a1 < (l0_0.length:Int):=oA;obtain ⟨ad122,e122,hx122_0⟩:=Kd.at_int HR0_0.out a1 p122 q122;cases e122;replace hx122_0:=(HB.out.cell (World.block_lt_of_cell? w _ hx122_0)).trans hx122_0;replace p122:=eq_true p122;replace q122:=eq_true q122)|((with_reducible refine gate_callee (f:=56) rfl ?_);refine goesL_ (some 51) rfl rfl Try.func56 (by kernel_rfl) rfl #[.agg #[.slice (some ad122) l0_0.length c0_0,.slice A0_1 l0_1.length c0_1],.int .i64 (rd t108 x26_1),.slice A3 l3.length c3] rfl oF ?_;(with_reducible refine (q9.calls k1 _ _ l0_0 _ _ l0_1 (rd t108 x26_1) _ _ l3 t123 _ ?side1 ?side2 ?side3 ?side4 ?side5 ?side6 A33.out).mono ?_);(case side1=>exact cq (Kd.C_below HR0_0.out HB.out));(case side2=>exact HC0_0.out);(case side3=>exact cq (Kd.C_below HR0_1.out HB.out));(case side4=>exact HC0_1.out);(case side5=>exact cq (Kd.C_below HR3.out HB.out));(case side6=>exact HC3.out);rintro e w38 ⟨v124,rfl,ho0,hb⟩;refine ⟨_,rfl,?_⟩;have n0_:=zk (Kd.R_elder' (rq HO_9.out) (Kd.R_base ho0) hb);have n1_:=zk (Kd.R_elder' (rq HO_10.out) (Kd.R_base ho0) hb);have n2_:=zk (Kd.R_elder' (rq HO_24.out) (Kd.R_base ho0) hb);have n3_:=zk (Kd.R_lower (Kd.R_new' (Kd.R_new' (Kd.R_new' ho0 (Kd.R_lt (rq HO_9.out))) (Kd.R_lt (rq HO_10.out))) (Kd.R_lt (rq HO_24.out))) (below_size (bg HB.out GE101 GE101)));have n4_:=zk (blk_below (g:=gb101) (o:=.cells #[.slice (some ad122) l0_0.length c0_0,.slice A0_1 l0_1.length c0_1] 25 (0,0)) (hq BK101.out) hb);have n5_:=zk (below_step (bg HB.out GE101 GE101) hb);clear HO_9;clear HO_10;clear HO_24;clear BK101;clear HB;have HO_9:=n0_;have HO_10:=n1_;have HO_24:=n2_;have HO125:=n3_;have BK101:=n4_;have HB:=n5_;clear n0_ n1_ n2_ n3_ n4_ n5_;(try clear hb);(try clear hb2);(try clear hk);(try clear hi);(try clear ho0);obtain ⟨Ao40,co40,eo40⟩:=Kd.R_slice HO125.out;subst eo40)|((with_reducible refine gate_builtin (b:=.append) (xs:=#[.tmp 47,.tmp 51]) rfl ?_);at_builtin;refine Kd.R_append_rows (Kd.int .i64) (w0:=w) w.heap.size rfl (.tmp 47) (.tmp 51) 22 3 (.int .i64 0) 8 rfl Try.underlying22 info3 rfl (by decide) (by omega) u10 x10_1 t123 _ _ _ (fun k_=>some k_ ≠ (u9:Value).ownBlock ∧ some k_ ≠ (.slice (some ad114) t108.length co16:Value).ownBlock ∧ some k_ ≠ (.slice Ao40 t123.length co40:Value).ownBlock) (fun _=>False) rfl rfl ?aO ?aR (fun _ _ h=>h) (fun _ h=>h.elim) ?aF ?aB ?aS ?aL ?_;(case aR=>exact cq ((Kd.R_reads' HO125.out).2.2));(case aB=>exact (bg HB.out GE101 GE101));(case aF=>exact (fun k_ hk=>⟨Kd.fresh' (Kd.R_lt (rq HO_9.out)) k_ hk,Kd.fresh' (Kd.R_lt (rq HO_24.out)) k_ hk,Kd.fresh' (Kd.R_lt (rq HO125.out)) k_ hk⟩));(case aO=>exact (rq (Kd.R_mono HO_10.out (fun _ hk=>⟨hk.1.1,⟨hk.1.2,hk.2⟩⟩))));(case aS=>exact (below_size (bg HB.out GE101 GE101)));(case aL=>have:=LMc34.out;omega);intro v127 w39 ho hb hg hat;rw [← Ny126.out] at ho;have n0_:=zk (Kd.R_after (ok:=(fun k_=>some k_ ≠ (.slice (some ad114) t108.length co16:Value).ownBlock ∧ some k_ ≠ (.slice Ao40 t123.length co40:Value).ownBlock)) (rq (Kd.R_mono HO_9.out (fun _ hk=>⟨⟨hk.1.2,hk.2⟩,hk.1.1⟩))) hg hat);have n1_:=zk (Kd.R_after (ok:=(fun k_=>some k_ ≠ (u9:Value).ownBlock ∧ some k_ ≠ (.slice Ao40 t123.length co40:Value).ownBlock)) (rq (Kd.R_mono HO_24.out (fun _ hk=>⟨⟨hk.1.1,hk.2⟩,hk.1.2⟩))) hg hat);have n2_:=zk (blk_grown (g:=gb101) (o:=.cells #[.slice (some ad122) l0_0.length c0_0,.slice A0_1 l0_1.length c0_1] 25 (0,0)) (hq BK101.out) hg (Kd.R_ne HO_10.out BK101.out (by decide)));have n3_:=zk (Kd.R_after (ok:=(fun k_=>some k_ ≠ (u9:Value).ownBlock ∧ some k_ ≠ (.slice (some ad114) t108.length co16:Value).ownBlock)) (rq (Kd.R_mono HO125.out (fun _ hk=>⟨⟨hk.1.1.2,hk.2⟩,hk.1.2⟩))) hg hat);have n4_:=zk (hb);have n5_:=zk (ho);clear HO_9;clear HO_24;clear BK101;clear HO125;clear HB;clear HO_10;have HO_9:=n0_;have HO_24:=n1_;have BK101:=n2_;have HO125:=n3_;have HB:=n4_;have HO128:=n5_;clear n0_ n1_ n2_ n3_ n4_ n5_;clear ho hb hg hat))
            go_roundg k1
            case measure=>have:=HK1.out;omega
            case rel=>exact ⟨(x9_1),(y126),(wrap64 (x26_1 + 1)),oE,H',⟨by have:=HK1.out;omega⟩,⟨rq (Kd.R_mono HO_9.out (fun _ hk=>⟨hk.2,hk.1.1⟩))⟩,⟨rq (Kd.R_mono HO128.out (fun _ hk=>⟨hk.1,hk.2.1⟩))⟩,⟨rq (Kd.R_mono HO_24.out (fun _ hk=>⟨hk.1.1,hk.2⟩))⟩,⟨hq BK101.out⟩,⟨bg HB.out GE101 GE101⟩⟩
           ·rw [if_neg c34] at H
            exact absurd H (by simp)
          ·rw [if_neg c32] at H
           have c32b0:((rd l0_0 a1) == 2) = false:=beq_eq_false_iff_ne.mpr c32
           have c32b1:((rd l0_0 a1) != 2) = true:=bne_iff_ne.mpr c32
           have H':=Aside0.mk H
           clear H
           have p114:0 ≤ (x26_1:Int):=oA
           have q114:x26_1 < (t108.length:Int):=oA
           obtain ⟨ad114,e114,hx114_0⟩:=Kd.at_int (Kd.R_reads' HO_24.out).2.2 x26_1 p114 q114
           cases e114
           replace p114:=eq_true p114
           replace q114:=eq_true q114
           have hcz41_0:wr.cell? ⟨gb101,0,none⟩ = some (.slice A0_0 l0_0.length c0_0):=(blk_cell BK101.out 0).trans rfl
           have hcz41_1:wr.cell? ⟨gb101,1,none⟩ = some (.slice A0_1 l0_1.length c0_1):=(blk_cell BK101.out 1).trans rfl
           have hfz41_0:=blk_frozen BK101.out 0
           have hfz41_1:=blk_frozen BK101.out 1
           go_wp2_with (first|((with_reducible refine gate_callee (f:=48) rfl ?_);refine goesL_ (some 33) rfl rfl Try.func48 (by kernel_rfl) rfl #[.agg #[.slice A0_0 l0_0.length c0_0,.slice A0_1 l0_1.length c0_1],.int .i64 a2,.int .i64 (rd t108 x26_1)] rfl oF ?_;(with_reducible refine (q3.calls k1 _ _ l0_0 _ _ l0_1 a2 (rd t108 x26_1) false _ ?side1 ?side2 ?side3 ?side4 A20.out).mono ?_);(case side1=>exact cq (Kd.C_below HR0_0.out HB.out));(case side2=>exact HC0_0.out);(case side3=>exact cq (Kd.C_below HR0_1.out HB.out));(case side4=>exact HC0_1.out);rintro e w42 ⟨rfl,hb⟩;refine ⟨_,rfl,?_⟩;have n0_:=zk (Kd.R_below (rq HO_9.out) hb);have n1_:=zk (Kd.R_below (rq HO_10.out) hb);have n2_:=zk (Kd.R_below (rq HO_24.out) hb);have n3_:=zk (blk_below (g:=gb101) (o:=.cells #[.slice A0_0 l0_0.length c0_0,.slice A0_1 l0_1.length c0_1] 25 (0,0)) (hq BK101.out) hb);have n4_:=zk (below_step (bg HB.out GE101 GE101) hb);clear HO_9;clear HO_10;clear HO_24;clear BK101;clear HB;have HO_9:=n0_;have HO_10:=n1_;have HO_24:=n2_;have BK101:=n3_;have HB:=n4_;clear n0_ n1_ n2_ n3_ n4_;(try clear hb);(try clear hb2);(try clear hk);(try clear hi);have hcz43_0:w42.cell? ⟨gb101,0,none⟩ = some (.slice A0_0 l0_0.length c0_0):=(blk_cell BK101.out 0).trans rfl;have hcz43_1:w42.cell? ⟨gb101,1,none⟩ = some (.slice A0_1 l0_1.length c0_1):=(blk_cell BK101.out 1).trans rfl;have hfz43_0:=blk_frozen BK101.out 0;have hfz43_1:=blk_frozen BK101.out 1;have p122:0 ≤ (a1:Int):=oA;have q122:a1 < (l0_0.length:Int):=oA;obtain ⟨ad122,e122,hx122_0⟩:=Kd.at_int HR0_0.out a1 p122 q122;cases e122;replace hx122_0:=(HB.out.cell (World.block_lt_of_cell? w _ hx122_0)).trans hx122_0;replace p122:=eq_true p122;replace q122:=eq_true q122))
           go_roundg k1
           case measure=>have:=HK1.out;omega
           case rel=>exact ⟨(x9_1),(x10_1),(wrap64 (x26_1 + 1)),oE,H',⟨by have:=HK1.out;omega⟩,⟨rq HO_9.out⟩,⟨rq HO_10.out⟩,⟨rq HO_24.out⟩,⟨hq BK101.out⟩,⟨bg HB.out GE101 GE101⟩⟩
         ·rw [if_neg c31] at H
          exact absurd H (by simp)
        ·rw [if_neg c30] at H
         exact absurd H (by simp)
      ·rw [if_neg c19] at H
       exact absurd H (by simp)
     ·rw [if_neg c18] at H
      exact absurd H (by simp)
    ·rw [if_neg c17] at H
     have c17b0:decide (x26_1 < (t108.length:Int)) = false:=decide_eq_false c17
     clear c17
     by_cases c44:x9_1.length + x10_1.length < 17592186044416
     ·rw [if_pos c44] at H
      have LMc44:=Aside0.mk c44
      clear c44
      obtain ⟨y111,hy111⟩:∃ y_:List Int,y_ = (x9_1 ++ x10_1):=⟨_,rfl⟩
      replace H:(some y111) = some r:=by first|(rw [hy111];with_reducible exact H)|(have H2_:=(Option.bind_some _ _).symm.trans H;rw [hy111];with_reducible exact H2_)|(have H2_:=(Option.bind_some _ _).symm.trans H;with_reducible exact H2_)|with_reducible exact H|(rw [hy111];exact H)|exact H
      have Ny111:=Aside0.mk hy111
      clear hy111
      obtain rfl:=Option.some.inj H
      obtain ⟨Ao46,co46,eo46⟩:=Kd.R_slice HO_10.out
      subst eo46
      go_wp2_with (first|((with_reducible refine gate_builtin (b:=.append) (xs:=#[.tmp 54,.tmp 55]) rfl ?_);at_builtin;refine Kd.R_append_rows (Kd.int .i64) (w0:=w) w.heap.size rfl (.tmp 54) (.tmp 55) 22 3 (.int .i64 0) 8 rfl Try.underlying22 info3 rfl (by decide) (by omega) u9 x9_1 x10_1 _ _ _ (fun k_=>some k_ ≠ (.slice Ao46 x10_1.length co46:Value).ownBlock ∧ some k_ ≠ (.slice Ao16 t108.length co16:Value).ownBlock) (fun _=>False) rfl rfl ?aO ?aR (fun _ _ h=>h) (fun _ h=>h.elim) ?aF ?aB ?aS ?aL ?_;(case aR=>exact cq ((Kd.R_reads' HO_10.out).2.2));(case aB=>exact (bg HB.out GE101 GE101));(case aF=>exact (fun k_ hk=>⟨Kd.fresh' (Kd.R_lt (rq HO_10.out)) k_ hk,Kd.fresh' (Kd.R_lt (rq HO_24.out)) k_ hk⟩));(case aO=>exact (rq HO_9.out));(case aS=>exact (below_size (bg HB.out GE101 GE101)));(case aL=>have:=LMc44.out;omega);intro v112 w45 ho hb hg hat;rw [← Ny111.out] at ho;have n0_:=zk (Kd.R_after (ok:=(fun k_=>some k_ ≠ (.slice Ao16 t108.length co16:Value).ownBlock)) (rq (Kd.R_mono HO_10.out (fun _ hk=>⟨hk.2,hk.1⟩))) hg hat);have n1_:=zk (Kd.R_after (ok:=(fun k_=>some k_ ≠ (.slice Ao46 x10_1.length co46:Value).ownBlock)) (rq (Kd.R_mono HO_24.out (fun _ hk=>⟨hk.2,hk.1⟩))) hg hat);have n2_:=zk (blk_grown (g:=gb101) (o:=.cells #[.slice A0_0 l0_0.length c0_0,.slice A0_1 l0_1.length c0_1] 25 (0,0)) (hq BK101.out) hg (Kd.R_ne HO_9.out BK101.out (by decide)));have n3_:=zk (hb);have n4_:=zk (ho);clear HO_10;clear HO_24;clear BK101;clear HB;clear HO_9;have HO_10:=n0_;have HO_24:=n1_;have BK101:=n2_;have HB:=n3_;have HO113:=n4_;clear n0_ n1_ n2_ n3_ n4_;clear ho hb hg hat))
      go_ret
      exact ⟨_,by first|rfl|(simp [errW_none,errW_some] <;> rfl)|(simp [*,errW_none,errW_some] <;> rfl),rq (Kd.R_mono HO113.out (fun _ hk=>trivial)),bg HB.out GE101 GE101⟩
     ·rw [if_neg c44] at H
      exact absurd H (by simp)
def q4.l0:Nat → Int → Int → List Int → Int → List Int → List Int → Option (List Int)
 | 0,_,_,_,_,_,_=>none
 | k + 1,x1,x2,x3,x9,x102000,x102001=>if 0 ≤ x9 then (if x9 < (x102001.length:Int) then (if (rd x102001 x9) = x1 then ((q12.f k x102000 x102001 x9 x2 x3).bind fun t103=>(some t103)) else (q4.l0 k x1 x2 x3 (rd x102001 x9) x102000 x102001)) else (none)) else (none)
def q4.f (k:Nat) (l0_0:List Int) (l0_1:List Int) (a1:Int) (a2:Int) (l3:List Int):Option (List Int):=q4.l0 k a1 a2 l3 a2 l0_0 l0_1
set_option maxHeartbeats 8000000 in
set_option maxRecDepth 100000 in
theorem q4.calls (k:Nat) (A0_0:Option Addr) (c0_0:Nat) (l0_0:List Int) (A0_1:Option Addr) (c0_1:Nat) (l0_1:List Int) (a1:Int) (a2:Int) (A3:Option Addr) (c3:Nat) (l3:List Int) (r:List Int) (w:World) (hr0_0:Kd.C (Kd.int .i64) w A0_0 l0_0.length l0_0) (hc0_0:l0_0.length ≤ c0_0) (hr0_1:Kd.C (Kd.int .i64) w A0_1 l0_1.length l0_1) (hc0_1:l0_1.length ≤ c0_1) (hr3:Kd.C (Kd.int .u32) w A3 l3.length l3) (hc3:l3.length ≤ c3) (h:q4.f k l0_0 l0_1 a1 a2 l3 = some r) :
  Calls Try.prog 37 #[.agg #[.slice A0_0 l0_0.length c0_0,.slice A0_1 l0_1.length c0_1],.int .i64 a1,.int .i64 a2,.slice A3 l3.length c3] w fun e w'=>∃ v0_:Value,e = .returned (v0_) ∧ Kd.R (Kd.int .i64) 3 w' w.heap.size (fun _=>True) v0_ r ∧ Below w.heap.size w w':=by
 have hu25:=Try.underlying25
 have HR0_0:=Aside0.mk hr0_0
 have HC0_0:=Aside0.mk hc0_0
 clear hr0_0 hc0_0
 have HR0_1:=Aside0.mk hr0_1
 have HC0_1:=Aside0.mk hc0_1
 clear hr0_1 hc0_1
 have HR3:=Aside0.mk hr3
 have HC3:=Aside0.mk hc3
 clear hr3 hc3
 have HB:=zk (Below.refl w.heap.size w)
 have H:(q4.l0 k a1 a2 l3 a2 l0_0 l0_1) = some r:=h
 clear h
 have H':=Aside0.mk H
 clear H
 go_enter Try.func37,Try.ntmps37
 go_wp2_with (first|((with_reducible refine gate_dst (N:=4) rfl ?_);refine box_event ?hg (N:=4) ?hd (cs:=#[.slice A0_0 l0_0.length c0_0,.slice A0_1 l0_1.length c0_1]) (t:=25) ?hr ?_;(case hd=>rfl);(case hg=>rfl);(case hr=>first|(go_simp;done)|(go_simp;rfl));intro gb101 hg w5 hbox hb;have n0_:=zk (below_step (bq HB.out) hb);have n1_:=zk (hbox);have n2_:=zk ((by rw [hg];exact (below_size (bq HB.out)):w.heap.size ≤ gb101));have n3_:=zk ((by rw [hg];exact (below_size (bq HB.out)):w.heap.size ≤ gb101));clear HB;have HB:=n0_;have BK101:=n1_;have GW101:=n2_;have GE101:=n3_;clear n0_ n1_ n2_ n3_;clear hb hbox hg))
 go_loopg [9] k (fun kq v9 w'=>∃ (x9_1:Int),v9 = .int .i64 x9_1 ∧ Aside0 (q4.l0 kq a1 a2 l3 x9_1 l0_0 l0_1 = some r) ∧ Aside0 (kq ≤ k) ∧ Aside0 (w'.heap[gb101]? = some (.cells #[(.slice A0_0 l0_0.length c0_0),(.slice A0_1 l0_1.length c0_1)] 25 (0,0))) ∧ Aside0 (Below w.heap.size w w'))
 case atStart=>exact ⟨(a2),oE,H',⟨Nat.le_refl _⟩,⟨hq BK101.out⟩,⟨bg HB.out GE101 GE101⟩⟩
 case round =>
  clear H'
  try clear p2
  try clear c3
  obtain ⟨x9_1,rfl,HA,HK1,BK101,HB⟩:=hrel
  cases gk with
  | zero=>exact absurd HA.out (by simp [q4.l0])
  | succ k1 =>
   have H:=HA.out
   clear HA
   simp only [q4.l0] at H
   by_cases c6:0 ≤ x9_1
   ·rw [if_pos c6] at H
    have c6b0:decide (0 ≤ x9_1) = true:=decide_eq_true c6
    clear c6
    by_cases c7:x9_1 < (l0_1.length:Int)
    ·rw [if_pos c7] at H
     have c7b0:decide (x9_1 < (l0_1.length:Int)) = true:=decide_eq_true c7
     clear c7
     by_cases c8:(rd l0_1 x9_1) = a1
     ·rw [if_pos c8] at H
      have c8b0:((rd l0_1 x9_1) == a1) = true:=beq_iff_eq.mpr c8
      have c8b1:((rd l0_1 x9_1) != a1) = false:=bne_eq_false_iff_eq.mpr c8
      clear c8
      replace H:=Option.bind_eq_some_iff.mp H
      obtain ⟨t103,A90,H⟩:=H
      replace H:(some t103) = some r:=H
      have A9:=Aside0.mk A90
      clear A90
      obtain rfl:=Option.some.inj H
      have hcz10_0:wr.cell? ⟨gb101,0,none⟩ = some (.slice A0_0 l0_0.length c0_0):=(blk_cell BK101.out 0).trans rfl
      have hcz10_1:wr.cell? ⟨gb101,1,none⟩ = some (.slice A0_1 l0_1.length c0_1):=(blk_cell BK101.out 1).trans rfl
      have hfz10_0:=blk_frozen BK101.out 0
      have hfz10_1:=blk_frozen BK101.out 1
      have p102:0 ≤ (x9_1:Int):=oA
      have q102:x9_1 < (l0_1.length:Int):=oA
      obtain ⟨ad102,e102,hx102_0⟩:=Kd.at_int HR0_1.out x9_1 p102 q102
      cases e102
      replace hx102_0:=(HB.out.cell (World.block_lt_of_cell? w _ hx102_0)).trans hx102_0
      replace p102:=eq_true p102
      replace q102:=eq_true q102
      go_wp2_with (first|((with_reducible refine gate_callee (f:=55) rfl ?_);refine goesL_ (some 27) rfl rfl Try.func55 (by kernel_rfl) rfl #[.agg #[.slice A0_0 l0_0.length c0_0,.slice (some ad102) l0_1.length c0_1],.int .i64 x9_1,.int .i64 a2,.slice A3 l3.length c3] rfl oF ?_;(with_reducible refine (q12.calls k1 _ _ l0_0 _ _ l0_1 x9_1 a2 _ _ l3 t103 _ ?side1 ?side2 ?side3 ?side4 ?side5 ?side6 A9.out).mono ?_);(case side1=>exact cq (Kd.C_below HR0_0.out HB.out));(case side2=>exact HC0_0.out);(case side3=>exact cq (Kd.C_below HR0_1.out HB.out));(case side4=>exact HC0_1.out);(case side5=>exact cq (Kd.C_below HR3.out HB.out));(case side6=>exact HC3.out);rintro e w11 ⟨v104,rfl,ho0,hb⟩;refine ⟨_,rfl,?_⟩;have n0_:=zk (Kd.R_lower ho0 (below_size (bg HB.out GE101 GE101)));have n1_:=zk (blk_below (g:=gb101) (o:=.cells #[.slice A0_0 l0_0.length c0_0,.slice (some ad102) l0_1.length c0_1] 25 (0,0)) (hq BK101.out) hb);have n2_:=zk (below_step (bg HB.out GE101 GE101) hb);clear BK101;clear HB;have HO105:=n0_;have BK101:=n1_;have HB:=n2_;clear n0_ n1_ n2_;(try clear hb);(try clear hb2);(try clear hk);(try clear hi);(try clear ho0)))
      go_ret
      exact ⟨_,by first|rfl|(simp [errW_none,errW_some] <;> rfl)|(simp [*,errW_none,errW_some] <;> rfl),rq HO105.out,bg HB.out GE101 GE101⟩
     ·rw [if_neg c8] at H
      have c8b0:((rd l0_1 x9_1) == a1) = false:=beq_eq_false_iff_ne.mpr c8
      have c8b1:((rd l0_1 x9_1) != a1) = true:=bne_iff_ne.mpr c8
      have H':=Aside0.mk H
      clear H
      have hcz12_0:wr.cell? ⟨gb101,0,none⟩ = some (.slice A0_0 l0_0.length c0_0):=(blk_cell BK101.out 0).trans rfl
      have hcz12_1:wr.cell? ⟨gb101,1,none⟩ = some (.slice A0_1 l0_1.length c0_1):=(blk_cell BK101.out 1).trans rfl
      have hfz12_0:=blk_frozen BK101.out 0
      have hfz12_1:=blk_frozen BK101.out 1
      have p102:0 ≤ (x9_1:Int):=oA
      have q102:x9_1 < (l0_1.length:Int):=oA
      obtain ⟨ad102,e102,hx102_0⟩:=Kd.at_int HR0_1.out x9_1 p102 q102
      cases e102
      replace hx102_0:=(HB.out.cell (World.block_lt_of_cell? w _ hx102_0)).trans hx102_0
      replace p102:=eq_true p102
      replace q102:=eq_true q102
      have p106:0 ≤ (x9_1:Int):=oA
      have q106:x9_1 < (l0_1.length:Int):=oA
      obtain ⟨ad106,e106,hx106_0⟩:=Kd.at_int HR0_1.out x9_1 p106 q106
      obtain rfl:ad102 = ad106:=(by injection e106)
      replace hx106_0:=(HB.out.cell (World.block_lt_of_cell? w _ hx106_0)).trans hx106_0
      replace p106:=eq_true p106
      replace q106:=eq_true q106
      go_wp2
      go_roundg k1
      case measure=>have:=HK1.out;omega
      case rel=>exact ⟨(rd l0_1 x9_1),oE,H',⟨by have:=HK1.out;omega⟩,⟨hq BK101.out⟩,⟨bg HB.out GE101 GE101⟩⟩
    ·rw [if_neg c7] at H
     exact absurd H (by simp)
   ·rw [if_neg c6] at H
    exact absurd H (by simp)
def q6.f (k:Nat) (l0_0:List Int) (l0_1:List Int):Option (List Int):=(q1.f k l0_0 l0_1 (-1)).bind fun t102=>((q9.f k l0_0 l0_1 t102 ([]:List Int)).bind fun t103=>(some t103))
set_option maxHeartbeats 8000000 in
set_option maxRecDepth 100000 in
theorem q6.calls (k:Nat) (A0_0:Option Addr) (c0_0:Nat) (l0_0:List Int) (A0_1:Option Addr) (c0_1:Nat) (l0_1:List Int) (r:List Int) (w:World) (hr0_0:Kd.C (Kd.int .i64) w A0_0 l0_0.length l0_0) (hc0_0:l0_0.length ≤ c0_0) (hr0_1:Kd.C (Kd.int .i64) w A0_1 l0_1.length l0_1) (hc0_1:l0_1.length ≤ c0_1) (h:q6.f k l0_0 l0_1 = some r) :
  Calls Try.prog 38 #[.agg #[.slice A0_0 l0_0.length c0_0,.slice A0_1 l0_1.length c0_1]] w fun e w'=>∃ v0_:Value,e = .returned (v0_) ∧ Kd.R (Kd.int .i64) 3 w' w.heap.size (fun _=>True) v0_ r ∧ Below w.heap.size w w':=by
 have hu25:=Try.underlying25
 have HR0_0:=Aside0.mk hr0_0
 have HC0_0:=Aside0.mk hc0_0
 clear hr0_0 hc0_0
 have HR0_1:=Aside0.mk hr0_1
 have HC0_1:=Aside0.mk hc0_1
 clear hr0_1 hc0_1
 have HB:=zk (Below.refl w.heap.size w)
 have H:((q1.f k l0_0 l0_1 (-1)).bind fun t102=>((q9.f k l0_0 l0_1 t102 ([]:List Int)).bind fun t103=>(some t103))) = some r:=h
 clear h
 replace H:=Option.bind_eq_some_iff.mp H
 obtain ⟨t102,A20,H⟩:=H
 replace H:((q9.f k l0_0 l0_1 t102 ([]:List Int)).bind fun t103=>(some t103)) = some r:=H
 have A2:=Aside0.mk A20
 clear A20
 replace H:=Option.bind_eq_some_iff.mp H
 obtain ⟨t103,A30,H⟩:=H
 replace H:(some t103) = some r:=H
 have A3:=Aside0.mk A30
 clear A30
 obtain rfl:=Option.some.inj H
 go_enter Try.func38,Try.ntmps38
 try go_wp2_with (first|((with_reducible refine gate_dst (N:=1) rfl ?_);refine box_event ?hg (N:=1) ?hd (cs:=#[.slice A0_0 l0_0.length c0_0,.slice A0_1 l0_1.length c0_1]) (t:=25) ?hr ?_;(case hd=>rfl);(case hg=>rfl);(case hr=>first|(go_simp;done)|(go_simp;rfl));intro gb101 hg w4 hbox hb;have n0_:=zk (below_step (bq HB.out) hb);have n1_:=zk (hbox);have n2_:=zk ((by rw [hg];exact (below_size (bq HB.out)):w.heap.size ≤ gb101));have n3_:=zk ((by rw [hg];exact (below_size (bq HB.out)):w.heap.size ≤ gb101));clear HB;have HB:=n0_;have BK101:=n1_;have GW101:=n2_;have GE101:=n3_;clear n0_ n1_ n2_ n3_;clear hb hbox hg))
 have n0_:=zk (blk_drew BK101.out)
 have n1_:=zk (below_drew1 HB.out)
 clear BK101
 clear HB
 have BK101:=n0_
 have HB:=n1_
 clear n0_ n1_
 refine start_ (n:=5) (S:=fun w'=>w'.cell? ⟨gb101,0,none⟩ = some (.slice A0_0 l0_0.length c0_0) ∧ w'.cell? ⟨gb101,1,none⟩ = some (.slice A0_1 l0_1.length c0_1)) (ds:=[]) #[false,false,false,false,false] (by kernel_rfl) rfl rfl ⟨(blk_cell BK101.out 0).trans rfl,(blk_cell BK101.out 1).trans rfl⟩ (fun hHeld=>?_)
 generalize w4.drew = w5 at BK101 HB hHeld ⊢
 refine take_ (i:=0) (N:=some 3) (v:=?_) (a':=?_) #[true,false,false,false,false] rfl rfl (by kernel_rfl) (fun _ _ _ h=>h) (Or.inl ⟨by rfl,?_⟩) hHeld ?_ ?_
 rotate_left
 ·rintro w' ⟨s0,s1⟩
  go_simp
  with_reducible rfl
 rotate_left
 ·simp only [Act.put,List.setIfInBounds_toArray,List.set_cons_zero,List.set_cons_succ,i64_w,i32_w]
  rfl
 refine take_ (i:=1) (N:=some 4) (v:=?_) (a':=?_) #[true,true,false,false,false] rfl rfl (by kernel_rfl) (fun _ _ _ h=>h) (Or.inl ⟨by rfl,?_⟩) hHeld ?_ ?_
 rotate_left
 ·rintro w' ⟨s0,s1⟩
  go_simp
  with_reducible rfl
 rotate_left
 ·simp only [Act.put,List.setIfInBounds_toArray,List.set_cons_zero,List.set_cons_succ,i64_w,i32_w]
  rfl
 refine one_ (i:=2) (N:=some 5) #[true,true,true,false,false] rfl rfl (by kernel_rfl) (by decide) (fun K hK=>?_)
 refine goes_ Try.func47 (by kernel_rfl) rfl #[.agg #[.slice A0_0 l0_0.length c0_0,.slice A0_1 l0_1.length c0_1],.int .i64 (-1)] (by rfl) rfl rfl oF ?_
 with_reducible refine (q1.calls k _ _ l0_0 _ _ l0_1 (-1) t102 _ ?side1 ?side2 ?side3 ?side4 A2.out).mono ?_
 (case side1=>exact cq (Kd.C_below HR0_0.out HB.out))
 (case side2=>exact HC0_0.out)
 (case side3=>exact cq (Kd.C_below HR0_1.out HB.out))
 (case side4=>exact HC0_1.out)
 rintro e w6 ⟨rfl,hb⟩
 refine ⟨_,rfl,?_⟩
 have n0_:=zk (blk_below (g:=gb101) (o:=.cells #[.slice A0_0 l0_0.length c0_0,.slice A0_1 l0_1.length c0_1] 25 (0,0)) (hq BK101.out) hb)
 have n1_:=zk (below_step (bg HB.out GE101 GE101) hb)
 clear BK101
 clear HB
 have BK101:=n0_
 have HB:=n1_
 clear n0_ n1_
 (try clear hb)
 (try clear hb2)
 (try clear hk)
 (try clear hi)
 refine hK.out _ _ ⟨(blk_cell BK101.out 0).trans rfl,(blk_cell BK101.out 1).trans rfl⟩ (fun hHeld=>?_)
 clear hK K
 refine norm_ (a':=?_) ?_ ?_
 rotate_left
 ·show Act.put _ (some 5) _ = _
  simp only [Act.put,List.setIfInBounds_toArray,List.set_cons_zero,List.set_cons_succ,i64_w,i32_w]
  rfl
 refine one_ (i:=3) (N:=some 6) #[true,true,true,true,false] rfl rfl (by kernel_rfl) (by decide) (fun K hK=>?_)
 refine goes_ Try.func56 (by kernel_rfl) rfl #[.agg #[.slice A0_0 l0_0.length c0_0,.slice A0_1 l0_1.length c0_1],.int .i64 t102,.slice none 0 0] (by rfl) rfl rfl oF ?_
 refine (q9.calls k _ _ l0_0 _ _ l0_1 t102 _ _ ([]:List Int) t103 _ ?side1 ?side2 ?side3 ?side4 ?side5 ?side6 A3.out).mono ?_
 (case side1=>exact cq (Kd.C_below HR0_0.out HB.out))
 (case side2=>exact HC0_0.out)
 (case side3=>exact cq (Kd.C_below HR0_1.out HB.out))
 (case side4=>exact HC0_1.out)
 (case side5=>exact Kd.C_nil _ _)
 (case side6=>exact Nat.le_refl _)
 rintro e w7 ⟨v104,rfl,ho0,hb⟩
 refine ⟨_,rfl,?_⟩
 have n0_:=zk (Kd.R_lower ho0 (below_size (bg HB.out GE101 GE101)))
 have n1_:=zk (blk_below (g:=gb101) (o:=.cells #[.slice A0_0 l0_0.length c0_0,.slice A0_1 l0_1.length c0_1] 25 (0,0)) (hq BK101.out) hb)
 have n2_:=zk (below_step (bg HB.out GE101 GE101) hb)
 clear BK101
 clear HB
 have HO105:=n0_
 have BK101:=n1_
 have HB:=n2_
 clear n0_ n1_ n2_
 (try clear hb)
 (try clear hb2)
 (try clear hk)
 (try clear hi)
 (try clear ho0)
 refine hK.out _ _ ⟨(blk_cell BK101.out 0).trans rfl,(blk_cell BK101.out 1).trans rfl⟩ (fun hHeld=>?_)
 clear hK K
 refine norm_ (a':=?_) ?_ ?_
 rotate_left
 ·show Act.put _ (some 6) _ = _
  simp only [Act.put,List.setIfInBounds_toArray,List.set_cons_zero,List.set_cons_succ,i64_w,i32_w]
  rfl
 refine pure_ (i:=4) (N:=some 2) (v:=?_) (a':=?_) #[true,true,true,true,true] rfl rfl (by kernel_rfl) (fun _ _ _ h=>h) (Or.inl ⟨by rfl,?_⟩) ?_ ?_
 rotate_left
 ·intro w'
  go_simp
  with_reducible rfl
 rotate_left
 ·simp only [Act.put,List.setIfInBounds_toArray,List.set_cons_zero,List.set_cons_succ,i64_w,i32_w]
  rfl
 refine done_ (by kernel_rfl) ?_
 try go_wp2
 go_ret
 exact ⟨_,by first|rfl|(simp [errW_none,errW_some] <;> rfl)|(simp [*,errW_none,errW_some] <;> rfl),rq HO105.out,bg HB.out GE101 GE101⟩
def q11.l0:Nat → List Int → List Int → Int → Option (Bool)
 | 0,_,_,_=>none
 | k + 1,x0,x1,x5=>if x5 < (x0.length:Int) then (if 0 ≤ x5 then (if x5 < (x1.length:Int) then (if (rd x0 x5) = (rd x1 x5) then (q11.l0 k x0 x1 (wrap64 (x5 + 1))) else (some false)) else (none)) else (none)) else (some true)
def q11.f (k:Nat) (l0:List Int) (l1:List Int):Option (Bool):=if (l0.length:Int) = (l1.length:Int) then (q11.l0 k l0 l1 0) else (some false)
set_option maxHeartbeats 8000000 in
set_option maxRecDepth 100000 in
theorem q11.calls (k:Nat) (A0:Option Addr) (c0:Nat) (l0:List Int) (A1:Option Addr) (c1:Nat) (l1:List Int) (r:Bool) (w:World) (hr0:Kd.C (Kd.int .u32) w A0 l0.length l0) (hc0:l0.length ≤ c0) (hr1:Kd.C (Kd.int .u32) w A1 l1.length l1) (hc1:l1.length ≤ c1) (h:q11.f k l0 l1 = some r) :
  Calls Try.prog 39 #[.slice A0 l0.length c0,.slice A1 l1.length c1] w fun e w'=>e = .returned (.bool r) ∧ Drawn0 w w':=by
 have HR0:=Aside0.mk hr0
 have HC0:=Aside0.mk hc0
 clear hr0 hc0
 have HR1:=Aside0.mk hr1
 have HC1:=Aside0.mk hc1
 clear hr1 hc1
 have H:(if (l0.length:Int) = (l1.length:Int) then (q11.l0 k l0 l1 0) else (some false)) = some r:=h
 clear h
 by_cases c3:(l0.length:Int) = (l1.length:Int)
 ·rw [if_pos c3] at H
  have c3b0:((l0.length:Int) == (l1.length:Int)) = true:=beq_iff_eq.mpr c3
  have c3b1:((l0.length:Int) != (l1.length:Int)) = false:=bne_eq_false_iff_eq.mpr c3
  have c3b2:(l0.length == l1.length) = true:=by first|simpa using c3|(simp at c3 ⊢;omega)
  clear c3
  have H':=Aside0.mk H
  clear H
  go_enter Try.func39,Try.ntmps39
  go_wp2
  repeat (go_quiet (fail);try go_wp2)
  go_loopg [5] k (fun kq v5 w'=>∃ (x5_1:Int),v5 = .int .i64 x5_1 ∧ Aside0 (q11.l0 kq l0 l1 x5_1 = some r) ∧ Aside0 (kq ≤ k) ∧ Drawn0 w w')
  case atStart=>exact ⟨(0),oE,H',⟨Nat.le_refl _⟩,by repeat (first|exact Drawn0.refl _|apply Drawn0.step)⟩
  case round =>
   clear H'
   try clear c1
   try clear p2
   try clear c3
   try clear c3b0
   try clear c3b1
   try clear c3b2
   obtain ⟨x5_1,rfl,HA,HK1,⟨m1,rfl⟩⟩:=hrel
   cases gk with
   | zero=>exact absurd HA.out (by simp [q11.l0])
   | succ k1 =>
    have H:=HA.out
    clear HA
    simp only [q11.l0] at H
    by_cases c4:x5_1 < (l0.length:Int)
    ·rw [if_pos c4] at H
     have c4b0:decide (x5_1 < (l0.length:Int)) = true:=decide_eq_true c4
     clear c4
     by_cases c5:0 ≤ x5_1
     ·rw [if_pos c5] at H
      have c5b0:decide (0 ≤ x5_1) = true:=decide_eq_true c5
      clear c5
      by_cases c6:x5_1 < (l1.length:Int)
      ·rw [if_pos c6] at H
       have c6b0:decide (x5_1 < (l1.length:Int)) = true:=decide_eq_true c6
       clear c6
       by_cases c7:(rd l0 x5_1) = (rd l1 x5_1)
       ·rw [if_pos c7] at H
        have c7b0:((rd l0 x5_1) == (rd l1 x5_1)) = true:=beq_iff_eq.mpr c7
        have c7b1:((rd l0 x5_1) != (rd l1 x5_1)) = false:=bne_eq_false_iff_eq.mpr c7
        clear c7
        have H':=Aside0.mk H
        clear H
        have p101:0 ≤ (x5_1:Int):=oA
        have q101:x5_1 < (l0.length:Int):=oA
        obtain ⟨ad101,e101,hx101_0⟩:=Kd.at_int HR0.out x5_1 p101 q101
        cases e101
        replace p101:=eq_true p101
        replace q101:=eq_true q101
        have p102:0 ≤ (x5_1:Int):=oA
        have q102:x5_1 < (l1.length:Int):=oA
        obtain ⟨ad102,e102,hx102_0⟩:=Kd.at_int HR1.out x5_1 p102 q102
        cases e102
        replace p102:=eq_true p102
        replace q102:=eq_true q102
        go_wp2
        repeat (go_quiet (fail);try go_wp2)
        go_roundg k1
        case measure=>have:=HK1.out;omega
        case rel=>exact ⟨(wrap64 (x5_1 + 1)),oE,H',⟨by have:=HK1.out;omega⟩,by repeat (first|exact Drawn0.refl _|apply Drawn0.step)⟩
       ·rw [if_neg c7] at H
        have c7b0:((rd l0 x5_1) == (rd l1 x5_1)) = false:=beq_eq_false_iff_ne.mpr c7
        have c7b1:((rd l0 x5_1) != (rd l1 x5_1)) = true:=bne_iff_ne.mpr c7
        obtain rfl:=Option.some.inj H
        have p101:0 ≤ (x5_1:Int):=oA
        have q101:x5_1 < (l0.length:Int):=oA
        obtain ⟨ad101,e101,hx101_0⟩:=Kd.at_int HR0.out x5_1 p101 q101
        cases e101
        replace p101:=eq_true p101
        replace q101:=eq_true q101
        have p102:0 ≤ (x5_1:Int):=oA
        have q102:x5_1 < (l1.length:Int):=oA
        obtain ⟨ad102,e102,hx102_0⟩:=Kd.at_int HR1.out x5_1 p102 q102
        cases e102
        replace p102:=eq_true p102
        replace q102:=eq_true q102
        go_wp2
        repeat (go_quiet (fail);try go_wp2)
        go_ret
        exact ⟨by first|rfl|(simp;done)|(simp [*];done),by repeat (first|exact Drawn0.refl _|apply Drawn0.step)⟩
      ·rw [if_neg c6] at H
       exact absurd H (by simp)
     ·rw [if_neg c5] at H
      exact absurd H (by simp)
    ·rw [if_neg c4] at H
     have c4b0:decide (x5_1 < (l0.length:Int)) = false:=decide_eq_false c4
     clear c4
     obtain rfl:=Option.some.inj H
     go_wp2
     repeat (go_quiet (fail);try go_wp2)
     go_ret
     exact ⟨by first|rfl|(simp;done)|(simp [*];done),by repeat (first|exact Drawn0.refl _|apply Drawn0.step)⟩
 ·rw [if_neg c3] at H
  have c3b0:((l0.length:Int) == (l1.length:Int)) = false:=beq_eq_false_iff_ne.mpr c3
  have c3b1:((l0.length:Int) != (l1.length:Int)) = true:=bne_iff_ne.mpr c3
  have c3b2:(l0.length == l1.length) = false:=by first|simpa using c3|(simp at c3 ⊢;omega)
  obtain rfl:=Option.some.inj H
  go_enter Try.func39,Try.ntmps39
  go_wp2
  repeat (go_quiet (fail);try go_wp2)
  go_ret
  exact ⟨by first|rfl|(simp;done)|(simp [*];done),by repeat (first|exact Drawn0.refl _|apply Drawn0.step)⟩
end Go.Proofs.Ytnomeokicfpidaa.Q
