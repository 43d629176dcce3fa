-- merged and slimmed by slim.py (a program of this repo)
import Derived.Test.YtnomeokicfpidaaKEnterTells5
import Derived.Test.YtnomeokicfpidaaKEnterTells8
namespace Go.Proofs.Ytnomeokicfpidaa.Q
open Go.RowKit Go.Proofs.YtnomeokicfpidaaW.PrintWords Go.Proofs.YtnomeokicfpidaaW.PrintLast Go.Proofs.YtnomeokicfpidaaW.PrintMore
attribute [local go_sem] max2_int min2_int max_two min_two max_three min_three max_four min_four
set_option linter.unusedVariables false
set_option linter.unusedSimpArgs false
mutual
def q9.l0:Nat → List Int → List Int → List Int → Int → Int → List Int → List Int → Option (List Int)
 | 0,_,_,_,_,_,_,_=>none
 | k + 1,x2,x7,x83,x84,x85,x102000,x102001=>if x85 < x84 then (if 0 ≤ x85 then (if x85 < (x83.length:Int) then ((q9.f k x102000 x102001 (rd x83 x85) x2).bind fun t118=>(if x7.length + t118.length < 17592186044416 then (q9.l0 k x2 (x7 ++ t118) x83 x84 (wrap64 (x85 + 1)) x102000 x102001) else (none))) else (none)) else (none)) else (some x7)
def q9.l1:Nat → List Int → Int → List Int → Int → Int → List Int → List Int → Option (List Int)
 | 0,_,_,_,_,_,_,_=>none
 | k + 1,x2,x8,x100,x101,x102,x102000,x102001=>if x102 < x101 then (if 0 ≤ x102 then (if x102 < (x100.length:Int) then ((q17.f x2 x8).bind fun t132=>(if 0 ≤ (IntKind.u64.wrap (rd x100 x102)) then (if (Go.bits .and .u32 (shr .u32 t132 (IntKind.u64.wrap (rd x100 x102))) 1) = 1 then ((q9.f k x102000 x102001 (rd x100 x102) x2).bind fun t133=>(some t133)) else (q9.l1 k x2 x8 x100 x101 (wrap64 (x102 + 1)) x102000 x102001)) else (none))) else (none)) else (none)) else ((q1.f k x102000 x102001 x8).bind fun t127=>((q9.f k x102000 x102001 t127 x2).bind fun t128=>(some t128)))
def q9.l2:Nat → List Int → List Int → Int → Int → Int → List Int → List Int → Option (List Int)
 | 0,_,_,_,_,_,_,_=>none
 | k + 1,x2,x7,x8,x29,x30,x102000,x102001=>if x30 < x29 then (if x30 = x8 then (q9.l2 k x2 x7 x8 x29 (wrap64 (x30 + 1)) x102000 x102001) else ((q3.f k x102000 x102001 x30 x8).bind fun t136=>(if t136 = true then ((q17.f x2 x8).bind fun t137=>(if 0 ≤ (IntKind.u64.wrap (x30)) then (if (Go.bits .and .u32 (shr .u32 t137 (IntKind.u64.wrap (x30))) 1) = 1 then (if x7.length < 17592186044416 then (q9.l2 k x2 (x7 ++ [x30]) x8 x29 (wrap64 (x30 + 1)) x102000 x102001) else (none)) else (q9.l2 k x2 x7 x8 x29 (wrap64 (x30 + 1)) x102000 x102001)) else (none))) else (q9.l2 k x2 x7 x8 x29 (wrap64 (x30 + 1)) x102000 x102001)))) else (if (x7.length:Int) = 0 then ((q1.f k x102000 x102001 x8).bind fun t141=>((q9.f k x102000 x102001 t141 x2).bind fun t142=>(some t142))) else (some x7))
def q9.f:Nat → List Int → List Int → Int → List Int → Option (List Int)
 | 0,_,_,_,_=>none
 | k + 1,l0_0,l0_1,a1,l2=>(some (([a1]:List Int):List Int)).bind fun y102=>(if 0 ≤ a1 then (if a1 < (l0_1.length:Int) then (if a1 < (l0_0.length:Int) then (if (rd l0_0 a1) = 1 then ((q1.f k l0_0 l0_1 a1).bind fun t107=>(if t107 ≥ 0 then ((q9.f k l0_0 l0_1 t107 l2).bind fun t108=>(if y102.length + t108.length < 17592186044416 then (some (y102 ++ t108)) else (none))) else (some y102))) else (if (rd l0_0 a1) = 2 then ((q7.f k l0_0 l0_1 a1).bind fun t114=>(q9.l0 k l2 y102 t114 (t114.length:Int) 0 l0_0 l0_1)) else (if (rd l0_0 a1) = 3 then ((q7.f k l0_0 l0_1 (rd l0_1 a1)).bind fun t124=>(q9.l1 k l2 (rd l0_1 a1) t124 (t124.length:Int) 0 l0_0 l0_1)) else (q9.l2 k l2 ([]:List Int) (rd l0_1 a1) (l0_0.length:Int) 0 l0_0 l0_1)))) else (none)) else (none)) else (none))
end
set_option maxHeartbeats 8000000 in
set_option maxRecDepth 100000 in
theorem q9.calls (k:Nat):∀ (A0_0:Option Addr) (c0_0:Nat) (l0_0:List Int) (A0_1:Option Addr) (c0_1:Nat) (l0_1:List Int) (a1:Int) (A2:Option Addr) (c2:Nat) (l2:List Int) (r:List Int) (w:World) (hr0_0:Kd.C (Kd.int .i64) w A0_0 l0_0.length l0_0) (hc0_0:l0_0.length ≤ c0_0) (hr0_1:Kd.C (Kd.int .i64) w A0_1 l0_1.length l0_1) (hc0_1:l0_1.length ≤ c0_1) (hr2:Kd.C (Kd.int .u32) w A2 l2.length l2) (hc2:l2.length ≤ c2) (h:q9.f k l0_0 l0_1 a1 l2 = some r),
  Calls Try.prog 56 #[.agg #[.slice A0_0 l0_0.length c0_0,.slice A0_1 l0_1.length c0_1],.int .i64 a1,.slice A2 l2.length c2] w fun e w'=>∃ v0_:Value,e = .returned (v0_) ∧ Kd.R (Kd.int .i64) 3 w' w.heap.size (fun _=>True) v0_ r ∧ Below w.heap.size w w':=by
 induction k using Nat.strongRecOn with
 | _ k ih =>
 intro A0_0 c0_0 l0_0 A0_1 c0_1 l0_1 a1 A2 c2 l2 r w hr0_0 hc0_0 hr0_1 hc0_1 hr2 hc2 h
 cases k with
 | zero=>exact absurd h (by simp [q9.f])
 | succ k =>
 simp only [q9.f] at h
 have hu25:=Try.underlying25
 have HR0_0:=Aside0.mk hr0_0
 have HC0_0:=Aside0.mk hc0_0
 clear hr0_0 hc0_0
 have HR0_1:=Aside0.mk hr0_1
 have HC0_1:=Aside0.mk hc0_1
 clear hr0_1 hc0_1
 have HR2:=Aside0.mk hr2
 have HC2:=Aside0.mk hc2
 clear hr2 hc2
 have HB:=zk (Below.refl w.heap.size w)
 have H:((some (([a1]:List Int):List Int)).bind fun y102=>(if 0 ≤ a1 then (if a1 < (l0_1.length:Int) then (if a1 < (l0_0.length:Int) then (if (rd l0_0 a1) = 1 then ((q1.f k l0_0 l0_1 a1).bind fun t107=>(if t107 ≥ 0 then ((q9.f k l0_0 l0_1 t107 l2).bind fun t108=>(if y102.length + t108.length < 17592186044416 then (some (y102 ++ t108)) else (none))) else (some y102))) else (if (rd l0_0 a1) = 2 then ((q7.f k l0_0 l0_1 a1).bind fun t114=>(q9.l0 k l2 y102 t114 (t114.length:Int) 0 l0_0 l0_1)) else (if (rd l0_0 a1) = 3 then ((q7.f k l0_0 l0_1 (rd l0_1 a1)).bind fun t124=>(q9.l1 k l2 (rd l0_1 a1) t124 (t124.length:Int) 0 l0_0 l0_1)) else (q9.l2 k l2 ([]:List Int) (rd l0_1 a1) (l0_0.length:Int) 0 l0_0 l0_1)))) else (none)) else (none)) else (none))) = some r:=h
 clear h
 obtain ⟨y102,hy102⟩:∃ y_:List Int,y_ = (([a1]:List Int)):=⟨_,rfl⟩
 replace H:(if 0 ≤ a1 then (if a1 < (l0_1.length:Int) then (if a1 < (l0_0.length:Int) then (if (rd l0_0 a1) = 1 then ((q1.f k l0_0 l0_1 a1).bind fun t107=>(if t107 ≥ 0 then ((q9.f k l0_0 l0_1 t107 l2).bind fun t108=>(if y102.length + t108.length < 17592186044416 then (some (y102 ++ t108)) else (none))) else (some y102))) else (if (rd l0_0 a1) = 2 then ((q7.f k l0_0 l0_1 a1).bind fun t114=>(q9.l0 k l2 y102 t114 (t114.length:Int) 0 l0_0 l0_1)) else (if (rd l0_0 a1) = 3 then ((q7.f k l0_0 l0_1 (rd l0_1 a1)).bind fun t124=>(q9.l1 k l2 (rd l0_1 a1) t124 (t124.length:Int) 0 l0_0 l0_1)) else (q9.l2 k l2 ([]:List Int) (rd l0_1 a1) (l0_0.length:Int) 0 l0_0 l0_1)))) else (none)) else (none)) else (none)) = some r:=by first|(rw [hy102];with_reducible exact H)|(have H2_:=(Option.bind_some _ _).symm.trans H;rw [hy102];with_reducible exact H2_)|(have H2_:=(Option.bind_some _ _).symm.trans H;with_reducible exact H2_)|with_reducible exact H|(rw [hy102];exact H)|exact H
 have Ny102:=Aside0.mk hy102
 clear hy102
 by_cases c4:0 ≤ a1
 ·rw [if_pos c4] at H
  have c4b0:decide (0 ≤ a1) = true:=decide_eq_true c4
  clear c4
  by_cases c5:a1 < (l0_1.length:Int)
  ·rw [if_pos c5] at H
   have c5b0:decide (a1 < (l0_1.length:Int)) = true:=decide_eq_true c5
   clear c5
   by_cases c6:a1 < (l0_0.length:Int)
   ·rw [if_pos c6] at H
    have c6b0:decide (a1 < (l0_0.length:Int)) = true:=decide_eq_true c6
    clear c6
    by_cases c7:(rd l0_0 a1) = 1
    ·rw [if_pos c7] at H
     have c7b0:((rd l0_0 a1) == 1) = true:=beq_iff_eq.mpr c7
     have c7b1:((rd l0_0 a1) != 1) = false:=bne_eq_false_iff_eq.mpr c7
     clear c7
     replace H:=Option.bind_eq_some_iff.mp H
     obtain ⟨t107,A80,H⟩:=H
     replace H:(if t107 ≥ 0 then ((q9.f k l0_0 l0_1 t107 l2).bind fun t108=>(if y102.length + t108.length < 17592186044416 then (some (y102 ++ t108)) else (none))) else (some y102)) = some r:=H
     have A8:=Aside0.mk A80
     clear A80
     by_cases c9:t107 ≥ 0
     ·rw [if_pos c9] at H
      have c9b0:decide (0 ≤ t107) = true:=decide_eq_true c9
      clear c9
      replace H:=Option.bind_eq_some_iff.mp H
      obtain ⟨t108,A100,H⟩:=H
      replace H:(if y102.length + t108.length < 17592186044416 then (some (y102 ++ t108)) else (none)) = some r:=H
      have A10:=Aside0.mk A100
      clear A100
      by_cases c11:y102.length + t108.length < 17592186044416
      ·rw [if_pos c11] at H
       have LMc11:=Aside0.mk c11
       clear c11
       obtain ⟨y111,hy111⟩:∃ y_:List Int,y_ = (y102 ++ t108):=⟨_,rfl⟩
       replace H:(some y111) = some r:=by first|(rw [hy111];with_reducible exact H)|(have H2_:=(Option.bind_some _ _).symm.trans H;rw [hy111];with_reducible exact H2_)|(have H2_:=(Option.bind_some _ _).symm.trans H;with_reducible exact H2_)|with_reducible exact H|(rw [hy111];exact H)|exact H
       have Ny111:=Aside0.mk hy111
       clear hy111
       obtain rfl:=Option.some.inj H
       go_enter Try.func56,Try.ntmps56
       go_wp2_with (first|((with_reducible refine gate_dst (N:=3) rfl ?_);refine box_event ?hg (N:=3) ?hd (cs:=#[.slice A0_0 l0_0.length c0_0,.slice A0_1 l0_1.length c0_1]) (t:=25) ?hr ?_;(case hd=>rfl);(case hg=>rfl);(case hr=>first|(go_simp;done)|(go_simp;rfl));intro gb101 hg w12 hbox hb;have n0_:=zk (below_step (bq HB.out) hb);have n1_:=zk (hbox);have n2_:=zk ((by rw [hg];exact (below_size (bq HB.out)):w.heap.size ≤ gb101));have n3_:=zk ((by rw [hg];exact (below_size (bq HB.out)):w.heap.size ≤ gb101));clear HB;have HB:=n0_;have BK101:=n1_;have GW101:=n2_;have GE101:=n3_;clear n0_ n1_ n2_ n3_;clear hb hbox hg)|((with_reducible refine gate_dst (N:=16) rfl ?_);refine Kd.R_lit (Kd.int .i64) _ 3 ?hg (N:=16) ?hd (xs:=([a1]:List Int)) (inner:=[.int .i64 a1]) (ok:=fun _=>True) (okp:=fun _=>True) ?hr ?hp (fun _ hk=>hk) trivial (Below.refl _ _) (Nat.le_refl _) (by simp) ?_;(case hd=>rfl);(case hg=>rfl);(case hr=>first|(go_simp;done)|(go_simp;rfl));(case hp=>exact (Reps.one (show Kd.M (Kd.int .i64) _ _ _ a1 [.int .i64 a1] from rfl) (Reps.none _ _)));intro v103 w13 ho14 hb hg_ hnew_;clear hg_ hnew_;(first|rw [← Ny102.out] at ho14|(simp only [Int.reduceToNat] at ho14;rw [← Ny102.out] at ho14));have n0_:=zk (Kd.R_lower ho14 (below_size (bg HB.out GE101 GE101)));have n1_:=zk (blk_below (g:=gb101) (o:=.cells #[.slice A0_0 l0_0.length c0_0,.slice A0_1 l0_1.length c0_1] 25 (0,0)) (hq BK101.out) hb);have n2_:=zk (below_step (bg HB.out GE101 GE101) hb);clear BK101;clear HB;have HO104:=n0_;have BK101:=n1_;have HB:=n2_;clear n0_ n1_ n2_;clear hb ho14;have hcz15_0:w13.cell? ⟨gb101,0,none⟩ = some (.slice A0_0 l0_0.length c0_0):=(blk_cell BK101.out 0).trans rfl;have hcz15_1:w13.cell? ⟨gb101,1,none⟩ = some (.slice A0_1 l0_1.length c0_1):=(blk_cell BK101.out 1).trans rfl;have hfz15_0:=blk_frozen BK101.out 0;have hfz15_1:=blk_frozen BK101.out 1;have p105:0 ≤ (a1:Int):=oA;have q105:a1 < (l0_1.length:Int):=oA;obtain ⟨ad105,e105,hx105_0⟩:=Kd.at_int HR0_1.out a1 p105 q105;cases e105;replace hx105_0:=(HB.out.cell (World.block_lt_of_cell? w _ hx105_0)).trans hx105_0;replace p105:=eq_true p105;replace q105:=eq_true q105;have p106:0 ≤ (a1:Int):=oA;have q106:a1 < (l0_0.length:Int):=oA;obtain ⟨ad106,e106,hx106_0⟩:=Kd.at_int HR0_0.out a1 p106 q106;cases e106;replace hx106_0:=(HB.out.cell (World.block_lt_of_cell? w _ hx106_0)).trans hx106_0;replace p106:=eq_true p106;replace q106:=eq_true q106)|((with_reducible refine gate_callee (f:=47) rfl ?_);refine goesL_ (some 70) rfl rfl Try.func47 (by kernel_rfl) rfl #[.agg #[.slice (some ad106) l0_0.length c0_0,.slice (some ad105) l0_1.length c0_1],.int .i64 a1] rfl oF ?_;(with_reducible refine (q1.calls k _ _ l0_0 _ _ l0_1 a1 t107 _ ?side1 ?side2 ?side3 ?side4 A8.out).mono ?_);(case side1=>exact cq (Kd.C_below HR0_0.out HB.out));(case side2=>exact HC0_0.out);(case side3=>exact cq (Kd.C_below HR0_1.out HB.out));(case side4=>exact HC0_1.out);rintro e w16 ⟨rfl,hb⟩;refine ⟨_,rfl,?_⟩;have n0_:=zk (Kd.R_below (rq HO104.out) hb);have n1_:=zk (blk_below (g:=gb101) (o:=.cells #[.slice (some ad106) l0_0.length c0_0,.slice (some ad105) l0_1.length c0_1] 25 (0,0)) (hq BK101.out) hb);have n2_:=zk (below_step (bg HB.out GE101 GE101) hb);clear HO104;clear BK101;clear HB;have HO104:=n0_;have BK101:=n1_;have HB:=n2_;clear n0_ n1_ n2_;(try clear hb);(try clear hb2);(try clear hk);(try clear hi);have hcz17_0:w16.cell? ⟨gb101,0,none⟩ = some (.slice (some ad106) l0_0.length c0_0):=(blk_cell BK101.out 0).trans rfl;have hcz17_1:w16.cell? ⟨gb101,1,none⟩ = some (.slice (some ad105) l0_1.length c0_1):=(blk_cell BK101.out 1).trans rfl;have hfz17_0:=blk_frozen BK101.out 0;have hfz17_1:=blk_frozen BK101.out 1)|((with_reducible refine gate_callee (f:=56) rfl ?_);refine goesL_ (some 77) rfl rfl Try.func56 (by kernel_rfl) rfl #[.agg #[.slice (some ad106) l0_0.length c0_0,.slice (some ad105) l0_1.length c0_1],.int .i64 t107,.slice A2 l2.length c2] rfl oF ?_;(with_reducible refine (ih k (by omega) _ _ l0_0 _ _ l0_1 t107 _ _ l2 t108 _ ?side1 ?side2 ?side3 ?side4 ?side5 ?side6 A10.out).mono ?_);(case side1=>exact cq (Kd.C_below HR0_0.out HB.out));(case side2=>exact HC0_0.out);(case side3=>exact cq (Kd.C_below HR0_1.out HB.out));(case side4=>exact HC0_1.out);(case side5=>exact cq (Kd.C_below HR2.out HB.out));(case side6=>exact HC2.out);rintro e w18 ⟨v109,rfl,ho0,hb⟩;refine ⟨_,rfl,?_⟩;have n0_:=zk (Kd.R_elder' (rq HO104.out) (Kd.R_base ho0) hb);have n1_:=zk (Kd.R_lower (Kd.R_new' ho0 (Kd.R_lt (rq HO104.out))) (below_size (bg HB.out GE101 GE101)));have n2_:=zk (blk_below (g:=gb101) (o:=.cells #[.slice (some ad106) l0_0.length c0_0,.slice (some ad105) l0_1.length c0_1] 25 (0,0)) (hq BK101.out) hb);have n3_:=zk (below_step (bg HB.out GE101 GE101) hb);clear HO104;clear BK101;clear HB;have HO104:=n0_;have HO110:=n1_;have BK101:=n2_;have HB:=n3_;clear n0_ n1_ n2_ n3_;(try clear hb);(try clear hb2);(try clear hk);(try clear hi);(try clear ho0);obtain ⟨Ao20,co20,eo20⟩:=Kd.R_slice HO110.out;subst eo20)|((with_reducible refine gate_builtin (b:=.append) (xs:=#[.tmp 73,.tmp 77]) rfl ?_);at_builtin;refine Kd.R_append_rows (Kd.int .i64) (w0:=w) w.heap.size rfl (.tmp 73) (.tmp 77) 22 3 (.int .i64 0) 8 rfl Try.underlying22 info3 rfl (by decide) (by omega) v103 y102 t108 _ _ _ (fun k_=>some k_ ≠ (.slice Ao20 t108.length co20:Value).ownBlock) (fun _=>False) rfl rfl ?aO ?aR (fun _ _ h=>h) (fun _ h=>h.elim) ?aF ?aB ?aS ?aL ?_;(case aR=>exact cq ((Kd.R_reads' HO110.out).2.2));(case aB=>exact (bg HB.out GE101 GE101));(case aF=>exact (fun k_ hk=>Kd.fresh' (Kd.R_lt (rq HO110.out)) k_ hk));(case aO=>exact (rq (Kd.R_mono HO104.out (fun _ hk=>hk.2))));(case aS=>exact (below_size (bg HB.out GE101 GE101)));(case aL=>have:=LMc11.out;omega);intro v112 w19 ho hb hg hat;rw [← Ny111.out] at ho;have n0_:=zk (blk_grown (g:=gb101) (o:=.cells #[.slice (some ad106) l0_0.length c0_0,.slice (some ad105) l0_1.length c0_1] 25 (0,0)) (hq BK101.out) hg (Kd.R_ne HO104.out BK101.out (by decide)));have n1_:=zk (Kd.R_after (ok:=(fun _=>True)) (rq HO110.out) hg hat);have n2_:=zk (hb);have n3_:=zk (ho);clear BK101;clear HO110;clear HB;clear HO104;have BK101:=n0_;have HO110:=n1_;have HB:=n2_;have HO113:=n3_;clear n0_ n1_ n2_ n3_;clear ho hb hg hat))
       go_ret
       exact ⟨_,by first|rfl|(simp [errW_none,errW_some] <;> rfl)|(simp [*,errW_none,errW_some] <;> rfl),rq (Kd.R_mono HO113.out (fun _ hk=>trivial)),bg HB.out GE101 GE101⟩
      ·rw [if_neg c11] at H
       exact absurd H (by simp)
     ·rw [if_neg c9] at H
      have c9b0:decide (0 ≤ t107) = false:=decide_eq_false c9
      clear c9
      obtain rfl:=Option.some.inj H
      go_enter Try.func56,Try.ntmps56
      go_wp2_with (first|((with_reducible refine gate_dst (N:=3) rfl ?_);refine box_event ?hg (N:=3) ?hd (cs:=#[.slice A0_0 l0_0.length c0_0,.slice A0_1 l0_1.length c0_1]) (t:=25) ?hr ?_;(case hd=>rfl);(case hg=>rfl);(case hr=>first|(go_simp;done)|(go_simp;rfl));intro gb101 hg w21 hbox hb;have n0_:=zk (below_step (bq HB.out) hb);have n1_:=zk (hbox);have n2_:=zk ((by rw [hg];exact (below_size (bq HB.out)):w.heap.size ≤ gb101));have n3_:=zk ((by rw [hg];exact (below_size (bq HB.out)):w.heap.size ≤ gb101));clear HB;have HB:=n0_;have BK101:=n1_;have GW101:=n2_;have GE101:=n3_;clear n0_ n1_ n2_ n3_;clear hb hbox hg)|((with_reducible refine gate_dst (N:=16) rfl ?_);refine Kd.R_lit (Kd.int .i64) _ 3 ?hg (N:=16) ?hd (xs:=([a1]:List Int)) (inner:=[.int .i64 a1]) (ok:=fun _=>True) (okp:=fun _=>True) ?hr ?hp (fun _ hk=>hk) trivial (Below.refl _ _) (Nat.le_refl _) (by simp) ?_;(case hd=>rfl);(case hg=>rfl);(case hr=>first|(go_simp;done)|(go_simp;rfl));(case hp=>exact (Reps.one (show Kd.M (Kd.int .i64) _ _ _ a1 [.int .i64 a1] from rfl) (Reps.none _ _)));intro v103 w22 ho23 hb hg_ hnew_;clear hg_ hnew_;(first|rw [← Ny102.out] at ho23|(simp only [Int.reduceToNat] at ho23;rw [← Ny102.out] at ho23));have n0_:=zk (Kd.R_lower ho23 (below_size (bg HB.out GE101 GE101)));have n1_:=zk (blk_below (g:=gb101) (o:=.cells #[.slice A0_0 l0_0.length c0_0,.slice A0_1 l0_1.length c0_1] 25 (0,0)) (hq BK101.out) hb);have n2_:=zk (below_step (bg HB.out GE101 GE101) hb);clear BK101;clear HB;have HO104:=n0_;have BK101:=n1_;have HB:=n2_;clear n0_ n1_ n2_;clear hb ho23;have hcz24_0:w22.cell? ⟨gb101,0,none⟩ = some (.slice A0_0 l0_0.length c0_0):=(blk_cell BK101.out 0).trans rfl;have hcz24_1:w22.cell? ⟨gb101,1,none⟩ = some (.slice A0_1 l0_1.length c0_1):=(blk_cell BK101.out 1).trans rfl;have hfz24_0:=blk_frozen BK101.out 0;have hfz24_1:=blk_frozen BK101.out 1;have p105:0 ≤ (a1:Int):=oA;have q105:a1 < (l0_1.length:Int):=oA;obtain ⟨ad105,e105,hx105_0⟩:=Kd.at_int HR0_1.out a1 p105 q105;cases e105;replace hx105_0:=(HB.out.cell (World.block_lt_of_cell? w _ hx105_0)).trans hx105_0;replace p105:=eq_true p105;replace q105:=eq_true q105;have p106:0 ≤ (a1:Int):=oA;have q106:a1 < (l0_0.length:Int):=oA;obtain ⟨ad106,e106,hx106_0⟩:=Kd.at_int HR0_0.out a1 p106 q106;cases e106;replace hx106_0:=(HB.out.cell (World.block_lt_of_cell? w _ hx106_0)).trans hx106_0;replace p106:=eq_true p106;replace q106:=eq_true q106)|((with_reducible refine gate_callee (f:=47) rfl ?_);refine goesL_ (some 70) rfl rfl Try.func47 (by kernel_rfl) rfl #[.agg #[.slice (some ad106) l0_0.length c0_0,.slice (some ad105) l0_1.length c0_1],.int .i64 a1] rfl oF ?_;(with_reducible refine (q1.calls k _ _ l0_0 _ _ l0_1 a1 t107 _ ?side1 ?side2 ?side3 ?side4 A8.out).mono ?_);(case side1=>exact cq (Kd.C_below HR0_0.out HB.out));(case side2=>exact HC0_0.out);(case side3=>exact cq (Kd.C_below HR0_1.out HB.out));(case side4=>exact HC0_1.out);rintro e w25 ⟨rfl,hb⟩;refine ⟨_,rfl,?_⟩;have n0_:=zk (Kd.R_below (rq HO104.out) hb);have n1_:=zk (blk_below (g:=gb101) (o:=.cells #[.slice (some ad106) l0_0.length c0_0,.slice (some ad105) l0_1.length c0_1] 25 (0,0)) (hq BK101.out) hb);have n2_:=zk (below_step (bg HB.out GE101 GE101) hb);clear HO104;clear BK101;clear HB;have HO104:=n0_;have BK101:=n1_;have HB:=n2_;clear n0_ n1_ n2_;(try clear hb);(try clear hb2);(try clear hk);(try clear hi)))
      go_ret
      exact ⟨_,by first|rfl|(simp [errW_none,errW_some] <;> rfl)|(simp [*,errW_none,errW_some] <;> rfl),rq HO104.out,bg HB.out GE101 GE101⟩
    ·rw [if_neg c7] at H
     have c7b0:((rd l0_0 a1) == 1) = false:=beq_eq_false_iff_ne.mpr c7
     have c7b1:((rd l0_0 a1) != 1) = true:=bne_iff_ne.mpr c7
     by_cases c26:(rd l0_0 a1) = 2
     ·rw [if_pos c26] at H
      have c26b0:((rd l0_0 a1) == 2) = true:=beq_iff_eq.mpr c26
      have c26b1:((rd l0_0 a1) != 2) = false:=bne_eq_false_iff_eq.mpr c26
      clear c26
      replace H:=Option.bind_eq_some_iff.mp H
      obtain ⟨t114,A270,H⟩:=H
      replace H:(q9.l0 k l2 y102 t114 (t114.length:Int) 0 l0_0 l0_1) = some r:=H
      have A27:=Aside0.mk A270
      clear A270
      have H':=Aside0.mk H
      clear H
      go_enter Try.func56,Try.ntmps56
      go_wp2_with (first|((with_reducible refine gate_dst (N:=3) rfl ?_);refine box_event ?hg (N:=3) ?hd (cs:=#[.slice A0_0 l0_0.length c0_0,.slice A0_1 l0_1.length c0_1]) (t:=25) ?hr ?_;(case hd=>rfl);(case hg=>rfl);(case hr=>first|(go_simp;done)|(go_simp;rfl));intro gb101 hg w28 hbox hb;have n0_:=zk (below_step (bq HB.out) hb);have n1_:=zk (hbox);have n2_:=zk ((by rw [hg];exact (below_size (bq HB.out)):w.heap.size ≤ gb101));have n3_:=zk ((by rw [hg];exact (below_size (bq HB.out)):w.heap.size ≤ gb101));clear HB;have HB:=n0_;have BK101:=n1_;have GW101:=n2_;have GE101:=n3_;clear n0_ n1_ n2_ n3_;clear hb hbox hg)|((with_reducible refine gate_dst (N:=16) rfl ?_);refine Kd.R_lit (Kd.int .i64) _ 3 ?hg (N:=16) ?hd (xs:=([a1]:List Int)) (inner:=[.int .i64 a1]) (ok:=fun _=>True) (okp:=fun _=>True) ?hr ?hp (fun _ hk=>hk) trivial (Below.refl _ _) (Nat.le_refl _) (by simp) ?_;(case hd=>rfl);(case hg=>rfl);(case hr=>first|(go_simp;done)|(go_simp;rfl));(case hp=>exact (Reps.one (show Kd.M (Kd.int .i64) _ _ _ a1 [.int .i64 a1] from rfl) (Reps.none _ _)));intro v103 w29 ho30 hb hg_ hnew_;clear hg_ hnew_;(first|rw [← Ny102.out] at ho30|(simp only [Int.reduceToNat] at ho30;rw [← Ny102.out] at ho30));have n0_:=zk (Kd.R_lower ho30 (below_size (bg HB.out GE101 GE101)));have n1_:=zk (blk_below (g:=gb101) (o:=.cells #[.slice A0_0 l0_0.length c0_0,.slice A0_1 l0_1.length c0_1] 25 (0,0)) (hq BK101.out) hb);have n2_:=zk (below_step (bg HB.out GE101 GE101) hb);clear BK101;clear HB;have HO104:=n0_;have BK101:=n1_;have HB:=n2_;clear n0_ n1_ n2_;clear hb ho30;have hcz31_0:w29.cell? ⟨gb101,0,none⟩ = some (.slice A0_0 l0_0.length c0_0):=(blk_cell BK101.out 0).trans rfl;have hcz31_1:w29.cell? ⟨gb101,1,none⟩ = some (.slice A0_1 l0_1.length c0_1):=(blk_cell BK101.out 1).trans rfl;have hfz31_0:=blk_frozen BK101.out 0;have hfz31_1:=blk_frozen BK101.out 1;have p105:0 ≤ (a1:Int):=oA;have q105:a1 < (l0_1.length:Int):=oA;obtain ⟨ad105,e105,hx105_0⟩:=Kd.at_int HR0_1.out a1 p105 q105;cases e105;replace hx105_0:=(HB.out.cell (World.block_lt_of_cell? w _ hx105_0)).trans hx105_0;replace p105:=eq_true p105;replace q105:=eq_true q105;have p106:0 ≤ (a1:Int):=oA;have q106:a1 < (l0_0.length:Int):=oA;obtain ⟨ad106,e106,hx106_0⟩:=Kd.at_int HR0_0.out a1 p106 q106;cases e106;replace hx106_0:=(HB.out.cell (World.block_lt_of_cell? w _ hx106_0)).trans hx106_0;replace p106:=eq_true p106;replace q106:=eq_true q106)|((with_reducible refine gate_callee (f:=46) rfl ?_);refine goesL_ (some 83) rfl rfl Try.func46 (by kernel_rfl) rfl #[.agg #[.slice (some ad106) l0_0.length c0_0,.slice (some ad105) l0_1.length c0_1],.int .i64 a1] rfl oF ?_;(with_reducible refine (q7.calls k _ _ l0_0 _ _ l0_1 a1 t114 _ ?side1 ?side2 ?side3 ?side4 A27.out).mono ?_);(case side1=>exact cq (Kd.C_below HR0_0.out HB.out));(case side2=>exact HC0_0.out);(case side3=>exact cq (Kd.C_below HR0_1.out HB.out));(case side4=>exact HC0_1.out);rintro e w32 ⟨v115,rfl,ho0,hb⟩;refine ⟨_,rfl,?_⟩;have n0_:=zk (Kd.R_elder' (rq HO104.out) (Kd.R_base ho0) hb);have n1_:=zk (Kd.R_lower (Kd.R_new' ho0 (Kd.R_lt (rq HO104.out))) (below_size (bg HB.out GE101 GE101)));have n2_:=zk (blk_below (g:=gb101) (o:=.cells #[.slice (some ad106) l0_0.length c0_0,.slice (some ad105) l0_1.length c0_1] 25 (0,0)) (hq BK101.out) hb);have n3_:=zk (below_step (bg HB.out GE101 GE101) hb);clear HO104;clear BK101;clear HB;have HO104:=n0_;have HO116:=n1_;have BK101:=n2_;have HB:=n3_;clear n0_ n1_ n2_ n3_;(try clear hb);(try clear hb2);(try clear hk);(try clear hi);(try clear ho0);obtain ⟨Ao33,co33,eo33⟩:=Kd.R_slice HO116.out;subst eo33))
      go_loopg [7,85] k (fun kq v7 v85 w'=>∃ (x7_1:List Int) (x85_1:Int),v85 = .int .i64 x85_1 ∧ Aside0 (q9.l0 kq l2 x7_1 t114 (t114.length:Int) x85_1 l0_0 l0_1 = some r) ∧ Aside0 (kq ≤ k) ∧ Aside0 (Kd.R (Kd.int .i64) 3 w' w.heap.size (fun k_=>some k_ ≠ ((.slice Ao33 t114.length co33):Value).ownBlock) v7 x7_1) ∧ Aside0 (Kd.R (Kd.int .i64) 3 w' w.heap.size (fun k_=>some k_ ≠ (v7:Value).ownBlock) (.slice Ao33 t114.length co33) t114) ∧ Aside0 (w'.heap[gb101]? = some (.cells #[(.slice (some ad106) l0_0.length c0_0),(.slice (some ad105) l0_1.length c0_1)] 25 (0,0))) ∧ Aside0 (Below w.heap.size w w'))
      case atStart=>exact ⟨(y102),(0),oE,H',⟨Nat.le_refl _⟩,⟨rq (Kd.R_mono HO104.out (fun _ hk=>hk.2))⟩,⟨rq (Kd.R_mono HO116.out (fun _ hk=>hk.2))⟩,⟨hq BK101.out⟩,⟨bg HB.out GE101 GE101⟩⟩
      case round =>
       clear H'
       try clear c1
       try clear p1
       try clear q1
       try clear hx1
       try clear c2
       try clear p2
       try clear c4
       try clear c4b0
       try clear c5
       try clear c5b0
       try clear c6
       try clear c6b0
       try clear c7
       try clear c7b0
       try clear c7b1
       try clear c9
       try clear c9b0
       try clear p10
       try clear q10
       try clear hx10
       try clear c11
       try clear c26
       try clear c26b0
       try clear c26b1
       try clear hcz15_0
       try clear hcz15_1
       try clear hcz17_0
       try clear hcz17_1
       try clear hcz24_0
       try clear hcz24_1
       try clear hcz31_0
       try clear hcz31_1
       try clear hfz15_0
       try clear hfz15_1
       try clear hfz17_0
       try clear hfz17_1
       try clear hfz24_0
       try clear hfz24_1
       try clear hfz31_0
       try clear hfz31_1
       try clear hx105_0
       try clear hx106_0
       try clear p105
       try clear p106
       try clear q105
       try clear q106
       obtain ⟨x7_1,x85_1,rfl,HA,HK1,HO_7,HO_83,BK101,HB⟩:=hrel
       cases gk with
       | zero=>exact absurd HA.out (by simp [q9.l0])
       | succ k1 =>
        have H:=HA.out
        clear HA
        simp only [q9.l0] at H
        by_cases c34:x85_1 < (t114.length:Int)
        ·rw [if_pos c34] at H
         have c34b0:decide (x85_1 < (t114.length:Int)) = true:=decide_eq_true c34
         clear c34
         by_cases c35:0 ≤ x85_1
         ·rw [if_pos c35] at H
          have c35b0:decide (0 ≤ x85_1) = true:=decide_eq_true c35
          clear c35
          by_cases c36:x85_1 < (t114.length:Int)
          ·rw [if_pos c36] at H
           have c36b0:decide (x85_1 < (t114.length:Int)) = true:=decide_eq_true c36
           clear c36
           replace H:=Option.bind_eq_some_iff.mp H
           obtain ⟨t118,A370,H⟩:=H
           replace H:(if x7_1.length + t118.length < 17592186044416 then (q9.l0 k1 l2 (x7_1 ++ t118) t114 (t114.length:Int) (wrap64 (x85_1 + 1)) l0_0 l0_1) else (none)) = some r:=H
           have A37:=Aside0.mk A370
           clear A370
           by_cases c38:x7_1.length + t118.length < 17592186044416
           ·rw [if_pos c38] at H
            have LMc38:=Aside0.mk c38
            clear c38
            obtain ⟨y121,hy121⟩:∃ y_:List Int,y_ = (x7_1 ++ t118):=⟨_,rfl⟩
            replace H:(q9.l0 k1 l2 y121 t114 (t114.length:Int) (wrap64 (x85_1 + 1)) l0_0 l0_1) = some r:=by first|(rw [hy121];with_reducible exact H)|(have H2_:=(Option.bind_some _ _).symm.trans H;rw [hy121];with_reducible exact H2_)|(have H2_:=(Option.bind_some _ _).symm.trans H;with_reducible exact H2_)|with_reducible exact H|(rw [hy121];exact H)|exact H
            have Ny121:=Aside0.mk hy121
            clear hy121
            have H':=Aside0.mk H
            clear H
            have p117:0 ≤ (x85_1:Int):=oA
            have q117:x85_1 < (t114.length:Int):=oA
            obtain ⟨ad117,e117,hx117_0⟩:=Kd.at_int (Kd.R_reads' HO_83.out).2.2 x85_1 p117 q117
            cases e117
            replace p117:=eq_true p117
            replace q117:=eq_true q117
            have hcz39_0:wr.cell? ⟨gb101,0,none⟩ = some (.slice (some ad106) l0_0.length c0_0):=(blk_cell BK101.out 0).trans rfl
            have hcz39_1:wr.cell? ⟨gb101,1,none⟩ = some (.slice (some ad105) l0_1.length c0_1):=(blk_cell BK101.out 1).trans rfl
            have hfz39_0:=blk_frozen BK101.out 0
            have hfz39_1:=blk_frozen BK101.out 1
            go_wp2_with (first|((with_reducible refine gate_callee (f:=56) rfl ?_);refine goesL_ (some 93) rfl rfl Try.func56 (by kernel_rfl) rfl #[.agg #[.slice (some ad106) l0_0.length c0_0,.slice (some ad105) l0_1.length c0_1],.int .i64 (rd t114 x85_1),.slice A2 l2.length c2] rfl oF ?_;(with_reducible refine (ih k1 (by have:=HK1.out;omega) _ _ l0_0 _ _ l0_1 (rd t114 x85_1) _ _ l2 t118 _ ?side1 ?side2 ?side3 ?side4 ?side5 ?side6 A37.out).mono ?_);(case side1=>exact cq (Kd.C_below HR0_0.out HB.out));(case side2=>exact HC0_0.out);(case side3=>exact cq (Kd.C_below HR0_1.out HB.out));(case side4=>exact HC0_1.out);(case side5=>exact cq (Kd.C_below HR2.out HB.out));(case side6=>exact HC2.out);rintro e w40 ⟨v119,rfl,ho0,hb⟩;refine ⟨_,rfl,?_⟩;have n0_:=zk (Kd.R_elder' (rq HO_7.out) (Kd.R_base ho0) hb);have n1_:=zk (Kd.R_elder' (rq HO_83.out) (Kd.R_base ho0) hb);have n2_:=zk (Kd.R_lower (Kd.R_new' (Kd.R_new' ho0 (Kd.R_lt (rq HO_7.out))) (Kd.R_lt (rq HO_83.out))) (below_size (bg HB.out GE101 GE101)));have n3_:=zk (blk_below (g:=gb101) (o:=.cells #[.slice (some ad106) l0_0.length c0_0,.slice (some ad105) l0_1.length c0_1] 25 (0,0)) (hq BK101.out) hb);have n4_:=zk (below_step (bg HB.out GE101 GE101) hb);clear HO_7;clear HO_83;clear BK101;clear HB;have HO_7:=n0_;have HO_83:=n1_;have HO120:=n2_;have BK101:=n3_;have HB:=n4_;clear n0_ n1_ n2_ n3_ n4_;(try clear hb);(try clear hb2);(try clear hk);(try clear hi);(try clear ho0);obtain ⟨Ao42,co42,eo42⟩:=Kd.R_slice HO120.out;subst eo42)|((with_reducible refine gate_builtin (b:=.append) (xs:=#[.tmp 89,.tmp 93]) rfl ?_);at_builtin;refine Kd.R_append_rows (Kd.int .i64) (w0:=w) w.heap.size rfl (.tmp 89) (.tmp 93) 22 3 (.int .i64 0) 8 rfl Try.underlying22 info3 rfl (by decide) (by omega) u7 x7_1 t118 _ _ _ (fun k_=>some k_ ≠ (.slice (some ad117) t114.length co33:Value).ownBlock ∧ some k_ ≠ (.slice Ao42 t118.length co42:Value).ownBlock) (fun _=>False) rfl rfl ?aO ?aR (fun _ _ h=>h) (fun _ h=>h.elim) ?aF ?aB ?aS ?aL ?_;(case aR=>exact cq ((Kd.R_reads' HO120.out).2.2));(case aB=>exact (bg HB.out GE101 GE101));(case aF=>exact (fun k_ hk=>⟨Kd.fresh' (Kd.R_lt (rq HO_83.out)) k_ hk,Kd.fresh' (Kd.R_lt (rq HO120.out)) k_ hk⟩));(case aO=>exact (rq HO_7.out));(case aS=>exact (below_size (bg HB.out GE101 GE101)));(case aL=>have:=LMc38.out;omega);intro v122 w41 ho hb hg hat;rw [← Ny121.out] at ho;have n0_:=zk (Kd.R_after (ok:=(fun k_=>some k_ ≠ (.slice Ao42 t118.length co42:Value).ownBlock)) (rq (Kd.R_mono HO_83.out (fun _ hk=>⟨hk.2,hk.1⟩))) hg hat);have n1_:=zk (blk_grown (g:=gb101) (o:=.cells #[.slice (some ad106) l0_0.length c0_0,.slice (some ad105) l0_1.length c0_1] 25 (0,0)) (hq BK101.out) hg (Kd.R_ne HO_7.out BK101.out (by decide)));have n2_:=zk (Kd.R_after (ok:=(fun k_=>some k_ ≠ (.slice (some ad117) t114.length co33:Value).ownBlock)) (rq (Kd.R_mono HO120.out (fun _ hk=>⟨hk.2,hk.1.2⟩))) hg hat);have n3_:=zk (hb);have n4_:=zk (ho);clear HO_83;clear BK101;clear HO120;clear HB;clear HO_7;have HO_83:=n0_;have BK101:=n1_;have HO120:=n2_;have HB:=n3_;have HO123:=n4_;clear n0_ n1_ n2_ n3_ n4_;clear ho hb hg hat))
            go_roundg k1
            case measure=>have:=HK1.out;omega
            case rel=>exact ⟨(y121),(wrap64 (x85_1 + 1)),oE,H',⟨by have:=HK1.out;omega⟩,⟨rq (Kd.R_mono HO123.out (fun _ hk=>hk.1))⟩,⟨rq (Kd.R_mono HO_83.out (fun _ hk=>hk.2))⟩,⟨hq BK101.out⟩,⟨bg HB.out GE101 GE101⟩⟩
           ·rw [if_neg c38] at H
            exact absurd H (by simp)
          ·rw [if_neg c36] at H
           exact absurd H (by simp)
         ·rw [if_neg c35] at H
          exact absurd H (by simp)
        ·rw [if_neg c34] at H
         have c34b0:decide (x85_1 < (t114.length:Int)) = false:=decide_eq_false c34
         clear c34
         obtain rfl:=Option.some.inj H
         go_wp2
         go_ret
         exact ⟨_,by first|rfl|(simp [errW_none,errW_some] <;> rfl)|(simp [*,errW_none,errW_some] <;> rfl),rq (Kd.R_mono HO_7.out (fun _ hk=>trivial)),bg HB.out GE101 GE101⟩
     ·rw [if_neg c26] at H
      have c26b0:((rd l0_0 a1) == 2) = false:=beq_eq_false_iff_ne.mpr c26
      have c26b1:((rd l0_0 a1) != 2) = true:=bne_iff_ne.mpr c26
      by_cases c43:(rd l0_0 a1) = 3
      ·rw [if_pos c43] at H
       have c43b0:((rd l0_0 a1) == 3) = true:=beq_iff_eq.mpr c43
       have c43b1:((rd l0_0 a1) != 3) = false:=bne_eq_false_iff_eq.mpr c43
       clear c43
       replace H:=Option.bind_eq_some_iff.mp H
       obtain ⟨t124,A440,H⟩:=H
       replace H:(q9.l1 k l2 (rd l0_1 a1) t124 (t124.length:Int) 0 l0_0 l0_1) = some r:=H
       have A44:=Aside0.mk A440
       clear A440
       have H':=Aside0.mk H
       clear H
       go_enter Try.func56,Try.ntmps56
       go_wp2_with (first|((with_reducible refine gate_dst (N:=3) rfl ?_);refine box_event ?hg (N:=3) ?hd (cs:=#[.slice A0_0 l0_0.length c0_0,.slice A0_1 l0_1.length c0_1]) (t:=25) ?hr ?_;(case hd=>rfl);(case hg=>rfl);(case hr=>first|(go_simp;done)|(go_simp;rfl));intro gb101 hg w45 hbox hb;have n0_:=zk (below_step (bq HB.out) hb);have n1_:=zk (hbox);have n2_:=zk ((by rw [hg];exact (below_size (bq HB.out)):w.heap.size ≤ gb101));have n3_:=zk ((by rw [hg];exact (below_size (bq HB.out)):w.heap.size ≤ gb101));clear HB;have HB:=n0_;have BK101:=n1_;have GW101:=n2_;have GE101:=n3_;clear n0_ n1_ n2_ n3_;clear hb hbox hg)|((with_reducible refine gate_dst (N:=16) rfl ?_);refine Kd.R_lit (Kd.int .i64) _ 3 ?hg (N:=16) ?hd (xs:=([a1]:List Int)) (inner:=[.int .i64 a1]) (ok:=fun _=>True) (okp:=fun _=>True) ?hr ?hp (fun _ hk=>hk) trivial (Below.refl _ _) (Nat.le_refl _) (by simp) ?_;(case hd=>rfl);(case hg=>rfl);(case hr=>first|(go_simp;done)|(go_simp;rfl));(case hp=>exact (Reps.one (show Kd.M (Kd.int .i64) _ _ _ a1 [.int .i64 a1] from rfl) (Reps.none _ _)));intro v103 w46 ho47 hb hg_ hnew_;clear hg_ hnew_;(first|rw [← Ny102.out] at ho47|(simp only [Int.reduceToNat] at ho47;rw [← Ny102.out] at ho47));have n0_:=zk (Kd.R_lower ho47 (below_size (bg HB.out GE101 GE101)));have n1_:=zk (blk_below (g:=gb101) (o:=.cells #[.slice A0_0 l0_0.length c0_0,.slice A0_1 l0_1.length c0_1] 25 (0,0)) (hq BK101.out) hb);have n2_:=zk (below_step (bg HB.out GE101 GE101) hb);clear BK101;clear HB;have HO104:=n0_;have BK101:=n1_;have HB:=n2_;clear n0_ n1_ n2_;clear hb ho47;have hcz48_0:w46.cell? ⟨gb101,0,none⟩ = some (.slice A0_0 l0_0.length c0_0):=(blk_cell BK101.out 0).trans rfl;have hcz48_1:w46.cell? ⟨gb101,1,none⟩ = some (.slice A0_1 l0_1.length c0_1):=(blk_cell BK101.out 1).trans rfl;have hfz48_0:=blk_frozen BK101.out 0;have hfz48_1:=blk_frozen BK101.out 1;have p105:0 ≤ (a1:Int):=oA;have q105:a1 < (l0_1.length:Int):=oA;obtain ⟨ad105,e105,hx105_0⟩:=Kd.at_int HR0_1.out a1 p105 q105;cases e105;replace hx105_0:=(HB.out.cell (World.block_lt_of_cell? w _ hx105_0)).trans hx105_0;replace p105:=eq_true p105;replace q105:=eq_true q105;have p106:0 ≤ (a1:Int):=oA;have q106:a1 < (l0_0.length:Int):=oA;obtain ⟨ad106,e106,hx106_0⟩:=Kd.at_int HR0_0.out a1 p106 q106;cases e106;replace hx106_0:=(HB.out.cell (World.block_lt_of_cell? w _ hx106_0)).trans hx106_0;replace p106:=eq_true p106;replace q106:=eq_true q106)|((with_reducible refine gate_callee (f:=46) rfl ?_);refine goesL_ (some 100) rfl rfl Try.func46 (by kernel_rfl) rfl #[.agg #[.slice (some ad106) l0_0.length c0_0,.slice (some ad105) l0_1.length c0_1],.int .i64 (rd l0_1 a1)] rfl oF ?_;(with_reducible refine (q7.calls k _ _ l0_0 _ _ l0_1 (rd l0_1 a1) t124 _ ?side1 ?side2 ?side3 ?side4 A44.out).mono ?_);(case side1=>exact cq (Kd.C_below HR0_0.out HB.out));(case side2=>exact HC0_0.out);(case side3=>exact cq (Kd.C_below HR0_1.out HB.out));(case side4=>exact HC0_1.out);rintro e w49 ⟨v125,rfl,ho0,hb⟩;refine ⟨_,rfl,?_⟩;have n0_:=zk (Kd.R_elder' (rq HO104.out) (Kd.R_base ho0) hb);have n1_:=zk (Kd.R_lower (Kd.R_new' ho0 (Kd.R_lt (rq HO104.out))) (below_size (bg HB.out GE101 GE101)));have n2_:=zk (blk_below (g:=gb101) (o:=.cells #[.slice (some ad106) l0_0.length c0_0,.slice (some ad105) l0_1.length c0_1] 25 (0,0)) (hq BK101.out) hb);have n3_:=zk (below_step (bg HB.out GE101 GE101) hb);clear HO104;clear BK101;clear HB;have HO104:=n0_;have HO126:=n1_;have BK101:=n2_;have HB:=n3_;clear n0_ n1_ n2_ n3_;(try clear hb);(try clear hb2);(try clear hk);(try clear hi);(try clear ho0);obtain ⟨Ao50,co50,eo50⟩:=Kd.R_slice HO126.out;subst eo50))
       go_loopg [102] k (fun kq v102 w'=>∃ (x102_1:Int),v102 = .int .i64 x102_1 ∧ Aside0 (q9.l1 kq l2 (rd l0_1 a1) t124 (t124.length:Int) x102_1 l0_0 l0_1 = some r) ∧ Aside0 (kq ≤ k) ∧ Aside0 (Kd.R (Kd.int .i64) 3 w' w.heap.size (fun _=>True) (.slice Ao50 t124.length co50) t124) ∧ Aside0 (w'.heap[gb101]? = some (.cells #[(.slice (some ad106) l0_0.length c0_0),(.slice (some ad105) l0_1.length c0_1)] 25 (0,0))) ∧ Aside0 (Below w.heap.size w w'))
       case atStart=>exact ⟨(0),oE,H',⟨Nat.le_refl _⟩,⟨rq (Kd.R_mono HO126.out (fun _ hk=>trivial))⟩,⟨hq BK101.out⟩,⟨bg HB.out GE101 GE101⟩⟩
       case round =>
        clear H'
        try clear c1
        try clear p1
        try clear q1
        try clear hx1
        try clear c2
        try clear p2
        try clear c3
        try clear c4
        try clear c4b0
        try clear c5
        try clear c5b0
        try clear c6
        try clear c6b0
        try clear p6
        try clear c7
        try clear c7b0
        try clear c7b1
        try clear c9
        try clear c9b0
        try clear p10
        try clear q10
        try clear hx10
        try clear c11
        try clear p11
        try clear q11
        try clear hx11
        try clear c26
        try clear c26b0
        try clear c26b1
        try clear c34
        try clear c34b0
        try clear c35
        try clear c35b0
        try clear c36
        try clear c36b0
        try clear c38
        try clear c43
        try clear c43b0
        try clear c43b1
        try clear c46
        try clear c47
        try clear hcz15_0
        try clear hcz15_1
        try clear hcz17_0
        try clear hcz17_1
        try clear hcz24_0
        try clear hcz24_1
        try clear hcz31_0
        try clear hcz31_1
        try clear hcz39_0
        try clear hcz39_1
        try clear hcz48_0
        try clear hcz48_1
        try clear hfz15_0
        try clear hfz15_1
        try clear hfz17_0
        try clear hfz17_1
        try clear hfz24_0
        try clear hfz24_1
        try clear hfz31_0
        try clear hfz31_1
        try clear hfz39_0
        try clear hfz39_1
        try clear hfz48_0
        try clear hfz48_1
        try clear hx105_0
        try clear hx106_0
        try clear hx117_0
        try clear p1
        try clear p10
        try clear p105
        try clear p106
        try clear p117
        try clear p2
        try clear q1
        try clear q10
        try clear q105
        try clear q106
        try clear q117
        obtain ⟨x102_1,rfl,HA,HK1,HO_100,BK101,HB⟩:=hrel
        cases gk with
        | zero=>exact absurd HA.out (by simp [q9.l1])
        | succ k1 =>
         have H:=HA.out
         clear HA
         simp only [q9.l1] at H
         by_cases c51:x102_1 < (t124.length:Int)
         ·rw [if_pos c51] at H
          have c51b0:decide (x102_1 < (t124.length:Int)) = true:=decide_eq_true c51
          clear c51
          by_cases c52:0 ≤ x102_1
          ·rw [if_pos c52] at H
           have c52b0:decide (0 ≤ x102_1) = true:=decide_eq_true c52
           clear c52
           by_cases c53:x102_1 < (t124.length:Int)
           ·rw [if_pos c53] at H
            have c53b0:decide (x102_1 < (t124.length:Int)) = true:=decide_eq_true c53
            clear c53
            replace H:=Option.bind_eq_some_iff.mp H
            obtain ⟨t132,A540,H⟩:=H
            replace H:(if 0 ≤ (IntKind.u64.wrap (rd t124 x102_1)) then (if (Go.bits .and .u32 (shr .u32 t132 (IntKind.u64.wrap (rd t124 x102_1))) 1) = 1 then ((q9.f k1 l0_0 l0_1 (rd t124 x102_1) l2).bind fun t133=>(some t133)) else (q9.l1 k1 l2 (rd l0_1 a1) t124 (t124.length:Int) (wrap64 (x102_1 + 1)) l0_0 l0_1)) else (none)) = some r:=H
            have A54:=Aside0.mk A540
            clear A540
            obtain ⟨ji55,hji55⟩:∃ j_:Int,(IntKind.u64.wrap (rd t124 x102_1)) = j_:=⟨_,rfl⟩
            replace H:(if 0 ≤ (ji55) then (if (Go.bits .and .u32 (shr .u32 t132 (ji55)) 1) = 1 then ((q9.f k1 l0_0 l0_1 (rd t124 x102_1) l2).bind fun t133=>(some t133)) else (q9.l1 k1 l2 (rd l0_1 a1) t124 (t124.length:Int) (wrap64 (x102_1 + 1)) l0_0 l0_1)) else (none)) = some r:=by first|(rw [hji55] at H;exact H)|(simp only [hji55] at H ⊢;exact H)
            (try rw [hji55] at A54)
            by_cases c56:0 ≤ (ji55)
            ·rw [if_pos c56] at H
             have c56b0:=eq_true c56
             have c56b1:decide (0 ≤ (ji55)) = true:=decide_eq_true c56
             clear c56
             obtain ⟨ji57,hji57⟩:∃ j_:Int,(shr .u32 t132 (ji55)) = j_:=⟨_,rfl⟩
             replace H:(if (Go.bits .and .u32 (ji57) 1) = 1 then ((q9.f k1 l0_0 l0_1 (rd t124 x102_1) l2).bind fun t133=>(some t133)) else (q9.l1 k1 l2 (rd l0_1 a1) t124 (t124.length:Int) (wrap64 (x102_1 + 1)) l0_0 l0_1)) = some r:=by first|(rw [hji57] at H;exact H)|(simp only [hji57] at H ⊢;exact H)
             (try rw [hji57] at A54)
             have hji57_:(t132 / 2 ^ min (ji55).toNat 32) = ji57:=hji57
             have hji57z:(ji55) ≤ 32 → (t132 / 2 ^ (ji55).toNat) = ji57:=shr_small hji57
             by_cases c58:(Go.bits .and .u32 (ji57) 1) = 1
             ·rw [if_pos c58] at H
              have c58b0:((Go.bits .and .u32 (ji57) 1) == 1) = true:=beq_iff_eq.mpr c58
              have c58b1:((Go.bits .and .u32 (ji57) 1) != 1) = false:=bne_eq_false_iff_eq.mpr c58
              clear c58
              replace H:=Option.bind_eq_some_iff.mp H
              obtain ⟨t133,A590,H⟩:=H
              replace H:(some t133) = some r:=H
              have A59:=Aside0.mk A590
              clear A590
              obtain rfl:=Option.some.inj H
              have p131:0 ≤ (x102_1:Int):=oA
              have q131:x102_1 < (t124.length:Int):=oA
              obtain ⟨ad131,e131,hx131_0⟩:=Kd.at_int (Kd.R_reads' HO_100.out).2.2 x102_1 p131 q131
              cases e131
              replace p131:=eq_true p131
              replace q131:=eq_true q131
              go_wp2_with (first|((with_reducible refine gate_callee (f:=57) rfl ?_);refine goesL_ (some 108) rfl rfl Try.func57 (by kernel_rfl) rfl #[.slice A2 l2.length c2,.int .i64 (rd l0_1 a1)] rfl oF ?_;(with_reducible refine (q17.calls _ _ l2 (rd l0_1 a1) t132 _ ?side1 ?side2 A54.out).mono ?_);(case side1=>exact cq (Kd.C_below HR2.out HB.out));(case side2=>exact HC2.out);rintro e w' ⟨rfl,⟨nd,rfl⟩⟩;refine ⟨_,rfl,?_⟩;have hcz60_0:wr.cell? ⟨gb101,0,none⟩ = some (.slice (some ad106) l0_0.length c0_0):=(blk_cell BK101.out 0).trans rfl;have hcz60_1:wr.cell? ⟨gb101,1,none⟩ = some (.slice (some ad105) l0_1.length c0_1):=(blk_cell BK101.out 1).trans rfl;have hfz60_0:=blk_frozen BK101.out 0;have hfz60_1:=blk_frozen BK101.out 1)|((with_reducible refine gate_callee (f:=56) rfl ?_);refine goesL_ (some 117) rfl rfl Try.func56 (by kernel_rfl) rfl #[.agg #[.slice (some ad106) l0_0.length c0_0,.slice (some ad105) l0_1.length c0_1],.int .i64 (rd t124 x102_1),.slice A2 l2.length c2] rfl oF ?_;(with_reducible refine (ih k1 (by have:=HK1.out;omega) _ _ l0_0 _ _ l0_1 (rd t124 x102_1) _ _ l2 t133 _ ?side1 ?side2 ?side3 ?side4 ?side5 ?side6 A59.out).mono ?_);(case side1=>exact (Kd.C_below HR0_0.out (bg HB.out GE101 GE101)));(case side2=>exact HC0_0.out);(case side3=>exact (Kd.C_below HR0_1.out (bg HB.out GE101 GE101)));(case side4=>exact HC0_1.out);(case side5=>exact (Kd.C_below HR2.out (bg HB.out GE101 GE101)));(case side6=>exact HC2.out);rintro e w61 ⟨v134,rfl,ho0,hb⟩;refine ⟨_,rfl,?_⟩;have n0_:=zk (Kd.R_elder' (rq HO_100.out) (Kd.R_base ho0) hb);have n1_:=zk (Kd.R_lower (Kd.R_new' ho0 (Kd.R_lt (rq HO_100.out))) (below_size (bg HB.out GE101 GE101)));have n2_:=zk (blk_below (g:=gb101) (o:=.cells #[.slice (some ad106) l0_0.length c0_0,.slice (some ad105) l0_1.length c0_1] 25 (0,0)) (hq BK101.out) hb);have n3_:=zk (below_step (bg HB.out GE101 GE101) hb);clear HO_100;clear BK101;clear HB;have HO_100:=n0_;have HO135:=n1_;have BK101:=n2_;have HB:=n3_;clear n0_ n1_ n2_ n3_;(try clear hb);(try clear hb2);(try clear hk);(try clear hi);(try clear ho0)))
              go_ret
              exact ⟨_,by first|rfl|(simp [errW_none,errW_some] <;> rfl)|(simp only [← hji55,← hji57];first|rfl|(simp [errW_none,errW_some] <;> rfl))|(simp [*,errW_none,errW_some] <;> rfl),rq (Kd.R_mono HO135.out (fun _ hk=>trivial)),bg HB.out GE101 GE101⟩
             ·rw [if_neg c58] at H
              have c58b0:((Go.bits .and .u32 (ji57) 1) == 1) = false:=beq_eq_false_iff_ne.mpr c58
              have c58b1:((Go.bits .and .u32 (ji57) 1) != 1) = true:=bne_iff_ne.mpr c58
              have H':=Aside0.mk H
              clear H
              have p131:0 ≤ (x102_1:Int):=oA
              have q131:x102_1 < (t124.length:Int):=oA
              obtain ⟨ad131,e131,hx131_0⟩:=Kd.at_int (Kd.R_reads' HO_100.out).2.2 x102_1 p131 q131
              cases e131
              replace p131:=eq_true p131
              replace q131:=eq_true q131
              go_wp2_with (first|((with_reducible refine gate_callee (f:=57) rfl ?_);refine goesL_ (some 108) rfl rfl Try.func57 (by kernel_rfl) rfl #[.slice A2 l2.length c2,.int .i64 (rd l0_1 a1)] rfl oF ?_;(with_reducible refine (q17.calls _ _ l2 (rd l0_1 a1) t132 _ ?side1 ?side2 A54.out).mono ?_);(case side1=>exact cq (Kd.C_below HR2.out HB.out));(case side2=>exact HC2.out);rintro e w' ⟨rfl,⟨nd,rfl⟩⟩;refine ⟨_,rfl,?_⟩))
              go_roundg k1
              case measure=>have:=HK1.out;omega
              case rel=>exact ⟨(wrap64 (x102_1 + 1)),oE,(by first|exact H'|exact ⟨by simp only [hji55,hji57];exact H'.out⟩),⟨by have:=HK1.out;omega⟩,⟨rq HO_100.out⟩,⟨hq BK101.out⟩,⟨bg HB.out GE101 GE101⟩⟩
            ·rw [if_neg c56] at H
             exact absurd H (by simp)
           ·rw [if_neg c53] at H
            exact absurd H (by simp)
          ·rw [if_neg c52] at H
           exact absurd H (by simp)
         ·rw [if_neg c51] at H
          have c51b0:decide (x102_1 < (t124.length:Int)) = false:=decide_eq_false c51
          clear c51
          replace H:=Option.bind_eq_some_iff.mp H
          obtain ⟨t127,A620,H⟩:=H
          replace H:((q9.f k1 l0_0 l0_1 t127 l2).bind fun t128=>(some t128)) = some r:=H
          have A62:=Aside0.mk A620
          clear A620
          replace H:=Option.bind_eq_some_iff.mp H
          obtain ⟨t128,A630,H⟩:=H
          replace H:(some t128) = some r:=H
          have A63:=Aside0.mk A630
          clear A630
          obtain rfl:=Option.some.inj H
          try go_wp2
          have n0_:=zk (Kd.R_drew HO_100.out)
          have n1_:=zk (blk_drew BK101.out)
          have n2_:=zk (below_drew1 HB.out)
          clear HO_100
          clear BK101
          clear HB
          have HO_100:=n0_
          have BK101:=n1_
          have HB:=n2_
          clear n0_ n1_ n2_
          refine start_ (n:=7) (S:=fun w'=>w'.cell? ⟨gb101,0,none⟩ = some (.slice (some ad106) l0_0.length c0_0) ∧ w'.cell? ⟨gb101,1,none⟩ = some (.slice (some ad105) l0_1.length c0_1)) (ds:=[]) #[false,false,false,false,false,false,false] (by kernel_rfl) rfl rfl ⟨(blk_cell BK101.out 0).trans rfl,(blk_cell BK101.out 1).trans rfl⟩ (fun hHeld=>?_)
          generalize wr.drew = w64 at HO_100 BK101 HB hHeld ⊢
          refine pure_ (i:=2) (N:=some 121) (v:=?_) (a':=?_) #[false,false,true,false,false,false,false] rfl rfl (by kernel_rfl) (fun _ _ _ h=>h) (Or.inl ⟨by rfl,?_⟩) ?_ ?_
          rotate_left
          ·intro w'
           go_simp
           with_reducible rfl
          rotate_left
          ·simp only [Act.put,List.setIfInBounds_toArray,List.set_cons_zero,List.set_cons_succ,i64_w,i32_w]
           rfl
          refine pure_ (i:=4) (N:=some 123) (v:=?_) (a':=?_) #[false,false,true,false,true,false,false] rfl rfl (by kernel_rfl) (fun _ _ _ h=>h) (Or.inl ⟨by rfl,?_⟩) ?_ ?_
          rotate_left
          ·intro w'
           go_simp
           with_reducible rfl
          rotate_left
          ·simp only [Act.put,List.setIfInBounds_toArray,List.set_cons_zero,List.set_cons_succ,i64_w,i32_w]
           rfl
          refine take_ (i:=0) (N:=some 119) (v:=?_) (a':=?_) #[true,false,true,false,true,false,false] rfl rfl (by kernel_rfl) (fun _ _ _ h=>h) (Or.inl ⟨by rfl,?_⟩) hHeld ?_ ?_
          rotate_left
          ·rintro w' ⟨s0,s1⟩
           go_simp
           with_reducible rfl
          rotate_left
          ·simp only [Act.put,List.setIfInBounds_toArray,List.set_cons_zero,List.set_cons_succ,i64_w,i32_w]
           rfl
          refine take_ (i:=1) (N:=some 120) (v:=?_) (a':=?_) #[true,true,true,false,true,false,false] rfl rfl (by kernel_rfl) (fun _ _ _ h=>h) (Or.inl ⟨by rfl,?_⟩) hHeld ?_ ?_
          rotate_left
          ·rintro w' ⟨s0,s1⟩
           go_simp
           with_reducible rfl
          rotate_left
          ·simp only [Act.put,List.setIfInBounds_toArray,List.set_cons_zero,List.set_cons_succ,i64_w,i32_w]
           rfl
          refine one_ (i:=3) (N:=some 122) #[true,true,true,true,true,false,false] rfl rfl (by kernel_rfl) (by decide) (fun K hK=>?_)
          refine goes_ Try.func47 (by kernel_rfl) rfl #[.agg #[.slice (some ad106) l0_0.length c0_0,.slice (some ad105) l0_1.length c0_1],.int .i64 (rd l0_1 a1)] (by rfl) rfl rfl oF ?_
          with_reducible refine (q1.calls k1 _ _ l0_0 _ _ l0_1 (rd l0_1 a1) t127 _ ?side1 ?side2 ?side3 ?side4 A62.out).mono ?_
          (case side1=>exact cq (Kd.C_below HR0_0.out HB.out))
          (case side2=>exact HC0_0.out)
          (case side3=>exact cq (Kd.C_below HR0_1.out HB.out))
          (case side4=>exact HC0_1.out)
          rintro e w65 ⟨rfl,hb⟩
          refine ⟨_,rfl,?_⟩
          have n0_:=zk (Kd.R_below (rq HO_100.out) hb)
          have n1_:=zk (blk_below (g:=gb101) (o:=.cells #[.slice (some ad106) l0_0.length c0_0,.slice (some ad105) l0_1.length c0_1] 25 (0,0)) (hq BK101.out) hb)
          have n2_:=zk (below_step (bg HB.out GE101 GE101) hb)
          clear HO_100
          clear BK101
          clear HB
          have HO_100:=n0_
          have BK101:=n1_
          have HB:=n2_
          clear n0_ n1_ n2_
          (try clear hb)
          (try clear hb2)
          (try clear hk)
          (try clear hi)
          refine hK.out _ _ ⟨(blk_cell BK101.out 0).trans rfl,(blk_cell BK101.out 1).trans rfl⟩ (fun hHeld=>?_)
          clear hK K
          refine norm_ (a':=?_) ?_ ?_
          rotate_left
          ·show Act.put _ (some 122) _ = _
           simp only [Act.put,List.setIfInBounds_toArray,List.set_cons_zero,List.set_cons_succ,i64_w,i32_w]
           rfl
          refine one_ (i:=5) (N:=some 124) #[true,true,true,true,true,true,false] rfl rfl (by kernel_rfl) (by decide) (fun K hK=>?_)
          refine goes_ Try.func56 (by kernel_rfl) rfl #[.agg #[.slice (some ad106) l0_0.length c0_0,.slice (some ad105) l0_1.length c0_1],.int .i64 t127,.slice A2 l2.length c2] (by rfl) rfl rfl oF ?_
          with_reducible refine (ih k1 (by have:=HK1.out;omega) _ _ l0_0 _ _ l0_1 t127 _ _ l2 t128 _ ?side1 ?side2 ?side3 ?side4 ?side5 ?side6 A63.out).mono ?_
          (case side1=>exact cq (Kd.C_below HR0_0.out HB.out))
          (case side2=>exact HC0_0.out)
          (case side3=>exact cq (Kd.C_below HR0_1.out HB.out))
          (case side4=>exact HC0_1.out)
          (case side5=>exact cq (Kd.C_below HR2.out HB.out))
          (case side6=>exact HC2.out)
          rintro e w66 ⟨v129,rfl,ho0,hb⟩
          refine ⟨_,rfl,?_⟩
          have n0_:=zk (Kd.R_elder' (rq HO_100.out) (Kd.R_base ho0) hb)
          have n1_:=zk (Kd.R_lower (Kd.R_new' ho0 (Kd.R_lt (rq HO_100.out))) (below_size (bg HB.out GE101 GE101)))
          have n2_:=zk (blk_below (g:=gb101) (o:=.cells #[.slice (some ad106) l0_0.length c0_0,.slice (some ad105) l0_1.length c0_1] 25 (0,0)) (hq BK101.out) hb)
          have n3_:=zk (below_step (bg HB.out GE101 GE101) hb)
          clear HO_100
          clear BK101
          clear HB
          have HO_100:=n0_
          have HO130:=n1_
          have BK101:=n2_
          have HB:=n3_
          clear n0_ n1_ n2_ n3_
          (try clear hb)
          (try clear hb2)
          (try clear hk)
          (try clear hi)
          (try clear ho0)
          refine hK.out _ _ ⟨(blk_cell BK101.out 0).trans rfl,(blk_cell BK101.out 1).trans rfl⟩ (fun hHeld=>?_)
          clear hK K
          refine norm_ (a':=?_) ?_ ?_
          rotate_left
          ·show Act.put _ (some 124) _ = _
           simp only [Act.put,List.setIfInBounds_toArray,List.set_cons_zero,List.set_cons_succ,i64_w,i32_w]
           rfl
          refine pure_ (i:=6) (N:=some 6) (v:=?_) (a':=?_) #[true,true,true,true,true,true,true] rfl rfl (by kernel_rfl) (fun _ _ _ h=>h) (Or.inl ⟨by rfl,?_⟩) ?_ ?_
          rotate_left
          ·intro w'
           go_simp
           with_reducible rfl
          rotate_left
          ·simp only [Act.put,List.setIfInBounds_toArray,List.set_cons_zero,List.set_cons_succ,i64_w,i32_w]
           rfl
          refine done_ (by kernel_rfl) ?_
          try go_wp2
          go_ret
          exact ⟨_,by first|rfl|(simp [errW_none,errW_some] <;> rfl)|(simp [*,errW_none,errW_some] <;> rfl),rq (Kd.R_mono HO130.out (fun _ hk=>trivial)),bg HB.out GE101 GE101⟩
      ·rw [if_neg c43] at H
       have c43b0:((rd l0_0 a1) == 3) = false:=beq_eq_false_iff_ne.mpr c43
       have c43b1:((rd l0_0 a1) != 3) = true:=bne_iff_ne.mpr c43
       have H':=Aside0.mk H
       clear H
       go_enter Try.func56,Try.ntmps56
       go_wp2_with (first|((with_reducible refine gate_dst (N:=3) rfl ?_);refine box_event ?hg (N:=3) ?hd (cs:=#[.slice A0_0 l0_0.length c0_0,.slice A0_1 l0_1.length c0_1]) (t:=25) ?hr ?_;(case hd=>rfl);(case hg=>rfl);(case hr=>first|(go_simp;done)|(go_simp;rfl));intro gb101 hg w67 hbox hb;have n0_:=zk (below_step (bq HB.out) hb);have n1_:=zk (hbox);have n2_:=zk ((by rw [hg];exact (below_size (bq HB.out)):w.heap.size ≤ gb101));have n3_:=zk ((by rw [hg];exact (below_size (bq HB.out)):w.heap.size ≤ gb101));clear HB;have HB:=n0_;have BK101:=n1_;have GW101:=n2_;have GE101:=n3_;clear n0_ n1_ n2_ n3_;clear hb hbox hg)|((with_reducible refine gate_dst (N:=16) rfl ?_);refine Kd.R_lit (Kd.int .i64) _ 3 ?hg (N:=16) ?hd (xs:=([a1]:List Int)) (inner:=[.int .i64 a1]) (ok:=fun _=>True) (okp:=fun _=>True) ?hr ?hp (fun _ hk=>hk) trivial (Below.refl _ _) (Nat.le_refl _) (by simp) ?_;(case hd=>rfl);(case hg=>rfl);(case hr=>first|(go_simp;done)|(go_simp;rfl));(case hp=>exact (Reps.one (show Kd.M (Kd.int .i64) _ _ _ a1 [.int .i64 a1] from rfl) (Reps.none _ _)));intro v103 w68 ho69 hb hg_ hnew_;clear hg_ hnew_;(first|rw [← Ny102.out] at ho69|(simp only [Int.reduceToNat] at ho69;rw [← Ny102.out] at ho69));have n0_:=zk (Kd.R_lower ho69 (below_size (bg HB.out GE101 GE101)));have n1_:=zk (blk_below (g:=gb101) (o:=.cells #[.slice A0_0 l0_0.length c0_0,.slice A0_1 l0_1.length c0_1] 25 (0,0)) (hq BK101.out) hb);have n2_:=zk (below_step (bg HB.out GE101 GE101) hb);clear BK101;clear HB;have HO104:=n0_;have BK101:=n1_;have HB:=n2_;clear n0_ n1_ n2_;clear hb ho69;have hcz70_0:w68.cell? ⟨gb101,0,none⟩ = some (.slice A0_0 l0_0.length c0_0):=(blk_cell BK101.out 0).trans rfl;have hcz70_1:w68.cell? ⟨gb101,1,none⟩ = some (.slice A0_1 l0_1.length c0_1):=(blk_cell BK101.out 1).trans rfl;have hfz70_0:=blk_frozen BK101.out 0;have hfz70_1:=blk_frozen BK101.out 1;have p105:0 ≤ (a1:Int):=oA;have q105:a1 < (l0_1.length:Int):=oA;obtain ⟨ad105,e105,hx105_0⟩:=Kd.at_int HR0_1.out a1 p105 q105;cases e105;replace hx105_0:=(HB.out.cell (World.block_lt_of_cell? w _ hx105_0)).trans hx105_0;replace p105:=eq_true p105;replace q105:=eq_true q105;have p106:0 ≤ (a1:Int):=oA;have q106:a1 < (l0_0.length:Int):=oA;obtain ⟨ad106,e106,hx106_0⟩:=Kd.at_int HR0_0.out a1 p106 q106;cases e106;replace hx106_0:=(HB.out.cell (World.block_lt_of_cell? w _ hx106_0)).trans hx106_0;replace p106:=eq_true p106;replace q106:=eq_true q106))
       go_loopg [7,30] k (fun kq v7 v30 w'=>∃ (x7_1:List Int) (x30_1:Int),v30 = .int .i64 x30_1 ∧ Aside0 (q9.l2 kq l2 x7_1 (rd l0_1 a1) (l0_0.length:Int) x30_1 l0_0 l0_1 = some r) ∧ Aside0 (kq ≤ k) ∧ Aside0 (Kd.R (Kd.int .i64) 3 w' w.heap.size (fun _=>True) v7 x7_1) ∧ Aside0 (w'.heap[gb101]? = some (.cells #[(.slice (some ad106) l0_0.length c0_0),(.slice (some ad105) l0_1.length c0_1)] 25 (0,0))) ∧ Aside0 (Below w.heap.size w w'))
       case atStart=>exact ⟨(([]:List Int)),(0),oE,H',⟨Nat.le_refl _⟩,⟨by first|exact Kd.R_nil _ _ _ _ _|exact Kd.N_nil _ _ _ _ _|exact Kd.V_nil _ _ _ _ _|exact Kd.Q_nil _ _ _ _ _|exact Kd.S_nil _ _ _ _ _⟩,⟨hq BK101.out⟩,⟨bg HB.out GE101 GE101⟩⟩
       case round =>
        clear H'
        try clear c1
        try clear p1
        try clear q1
        try clear hx1
        try clear c2
        try clear p2
        try clear c3
        try clear c4
        try clear c4b0
        try clear c5
        try clear c5b0
        try clear c6
        try clear c6b0
        try clear p6
        try clear c7
        try clear c7b0
        try clear c7b1
        try clear c9
        try clear c9b0
        try clear p10
        try clear q10
        try clear hx10
        try clear c11
        try clear p11
        try clear q11
        try clear hx11
        try clear p13
        try clear q13
        try clear hx13
        try clear c26
        try clear c26b0
        try clear c26b1
        try clear c34
        try clear c34b0
        try clear c35
        try clear c35b0
        try clear c36
        try clear c36b0
        try clear c38
        try clear c43
        try clear c43b0
        try clear c43b1
        try clear c46
        try clear c47
        try clear c51
        try clear c51b0
        try clear c52
        try clear c52b0
        try clear c53
        try clear c53b0
        try clear c56
        try clear c56b0
        try clear c56b1
        try clear c57
        try clear c58
        try clear c58b0
        try clear c58b1
        try clear p64
        try clear hcz15_0
        try clear hcz15_1
        try clear hcz17_0
        try clear hcz17_1
        try clear hcz24_0
        try clear hcz24_1
        try clear hcz31_0
        try clear hcz31_1
        try clear hcz39_0
        try clear hcz39_1
        try clear hcz48_0
        try clear hcz48_1
        try clear hcz60_0
        try clear hcz60_1
        try clear hcz70_0
        try clear hcz70_1
        try clear hfz15_0
        try clear hfz15_1
        try clear hfz17_0
        try clear hfz17_1
        try clear hfz24_0
        try clear hfz24_1
        try clear hfz31_0
        try clear hfz31_1
        try clear hfz39_0
        try clear hfz39_1
        try clear hfz48_0
        try clear hfz48_1
        try clear hfz60_0
        try clear hfz60_1
        try clear hfz70_0
        try clear hfz70_1
        try clear hx105_0
        try clear hx106_0
        try clear hx117_0
        try clear hx131_0
        try clear p1
        try clear p10
        try clear p105
        try clear p106
        try clear p11
        try clear p117
        try clear p131
        try clear p2
        try clear p6
        try clear q1
        try clear q10
        try clear q105
        try clear q106
        try clear q11
        try clear q117
        try clear q131
        obtain ⟨x7_1,x30_1,rfl,HA,HK1,HO_7,BK101,HB⟩:=hrel
        cases gk with
        | zero=>exact absurd HA.out (by simp [q9.l2])
        | succ k1 =>
         have H:=HA.out
         clear HA
         simp only [q9.l2] at H
         by_cases c71:x30_1 < (l0_0.length:Int)
         ·rw [if_pos c71] at H
          have c71b0:decide (x30_1 < (l0_0.length:Int)) = true:=decide_eq_true c71
          clear c71
          by_cases c72:x30_1 = (rd l0_1 a1)
          ·rw [if_pos c72] at H
           have c72b0:(x30_1 == (rd l0_1 a1)) = true:=beq_iff_eq.mpr c72
           have c72b1:(x30_1 != (rd l0_1 a1)) = false:=bne_eq_false_iff_eq.mpr c72
           clear c72
           have H':=Aside0.mk H
           clear H
           go_wp2
           go_roundg k1
           case measure=>have:=HK1.out;omega
           case rel=>exact ⟨(x7_1),(wrap64 (x30_1 + 1)),oE,H',⟨by have:=HK1.out;omega⟩,⟨rq HO_7.out⟩,⟨hq BK101.out⟩,⟨bg HB.out GE101 GE101⟩⟩
          ·rw [if_neg c72] at H
           have c72b0:(x30_1 == (rd l0_1 a1)) = false:=beq_eq_false_iff_ne.mpr c72
           have c72b1:(x30_1 != (rd l0_1 a1)) = true:=bne_iff_ne.mpr c72
           replace H:=Option.bind_eq_some_iff.mp H
           obtain ⟨t136,A730,H⟩:=H
           replace H:(if t136 = true then ((q17.f l2 (rd l0_1 a1)).bind fun t137=>(if 0 ≤ (IntKind.u64.wrap (x30_1)) then (if (Go.bits .and .u32 (shr .u32 t137 (IntKind.u64.wrap (x30_1))) 1) = 1 then (if x7_1.length < 17592186044416 then (q9.l2 k1 l2 (x7_1 ++ [x30_1]) (rd l0_1 a1) (l0_0.length:Int) (wrap64 (x30_1 + 1)) l0_0 l0_1) else (none)) else (q9.l2 k1 l2 x7_1 (rd l0_1 a1) (l0_0.length:Int) (wrap64 (x30_1 + 1)) l0_0 l0_1)) else (none))) else (q9.l2 k1 l2 x7_1 (rd l0_1 a1) (l0_0.length:Int) (wrap64 (x30_1 + 1)) l0_0 l0_1)) = some r:=H
           have A73:=Aside0.mk A730
           clear A730
           by_cases c74:t136 = true
           ·subst c74
            have H1:((q17.f l2 (rd l0_1 a1)).bind fun t137=>(if 0 ≤ (IntKind.u64.wrap (x30_1)) then (if (Go.bits .and .u32 (shr .u32 t137 (IntKind.u64.wrap (x30_1))) 1) = 1 then (if x7_1.length < 17592186044416 then (q9.l2 k1 l2 (x7_1 ++ [x30_1]) (rd l0_1 a1) (l0_0.length:Int) (wrap64 (x30_1 + 1)) l0_0 l0_1) else (none)) else (q9.l2 k1 l2 x7_1 (rd l0_1 a1) (l0_0.length:Int) (wrap64 (x30_1 + 1)) l0_0 l0_1)) else (none))) = some r:=by rw [if_pos rfl] at H;exact H
            clear H
            have H:=H1
            clear H1
            replace H:=Option.bind_eq_some_iff.mp H
            obtain ⟨t137,A750,H⟩:=H
            replace H:(if 0 ≤ (IntKind.u64.wrap (x30_1)) then (if (Go.bits .and .u32 (shr .u32 t137 (IntKind.u64.wrap (x30_1))) 1) = 1 then (if x7_1.length < 17592186044416 then (q9.l2 k1 l2 (x7_1 ++ [x30_1]) (rd l0_1 a1) (l0_0.length:Int) (wrap64 (x30_1 + 1)) l0_0 l0_1) else (none)) else (q9.l2 k1 l2 x7_1 (rd l0_1 a1) (l0_0.length:Int) (wrap64 (x30_1 + 1)) l0_0 l0_1)) else (none)) = some r:=H
            have A75:=Aside0.mk A750
            clear A750
            obtain ⟨ji76,hji76⟩:∃ j_:Int,(IntKind.u64.wrap (x30_1)) = j_:=⟨_,rfl⟩
            replace H:(if 0 ≤ (ji76) then (if (Go.bits .and .u32 (shr .u32 t137 (ji76)) 1) = 1 then (if x7_1.length < 17592186044416 then (q9.l2 k1 l2 (x7_1 ++ [x30_1]) (rd l0_1 a1) (l0_0.length:Int) (wrap64 (x30_1 + 1)) l0_0 l0_1) else (none)) else (q9.l2 k1 l2 x7_1 (rd l0_1 a1) (l0_0.length:Int) (wrap64 (x30_1 + 1)) l0_0 l0_1)) else (none)) = some r:=by first|(rw [hji76] at H;exact H)|(simp only [hji76] at H ⊢;exact H)
            (try rw [hji76] at A73)
            (try rw [hji76] at A75)
            by_cases c77:0 ≤ (ji76)
            ·rw [if_pos c77] at H
             have c77b0:=eq_true c77
             have c77b1:decide (0 ≤ (ji76)) = true:=decide_eq_true c77
             clear c77
             obtain ⟨ji78,hji78⟩:∃ j_:Int,(shr .u32 t137 (ji76)) = j_:=⟨_,rfl⟩
             replace H:(if (Go.bits .and .u32 (ji78) 1) = 1 then (if x7_1.length < 17592186044416 then (q9.l2 k1 l2 (x7_1 ++ [x30_1]) (rd l0_1 a1) (l0_0.length:Int) (wrap64 (x30_1 + 1)) l0_0 l0_1) else (none)) else (q9.l2 k1 l2 x7_1 (rd l0_1 a1) (l0_0.length:Int) (wrap64 (x30_1 + 1)) l0_0 l0_1)) = some r:=by first|(rw [hji78] at H;exact H)|(simp only [hji78] at H ⊢;exact H)
             (try rw [hji78] at A73)
             (try rw [hji78] at A75)
             have hji78_:(t137 / 2 ^ min (ji76).toNat 32) = ji78:=hji78
             have hji78z:(ji76) ≤ 32 → (t137 / 2 ^ (ji76).toNat) = ji78:=shr_small hji78
             by_cases c79:(Go.bits .and .u32 (ji78) 1) = 1
             ·rw [if_pos c79] at H
              have c79b0:((Go.bits .and .u32 (ji78) 1) == 1) = true:=beq_iff_eq.mpr c79
              have c79b1:((Go.bits .and .u32 (ji78) 1) != 1) = false:=bne_eq_false_iff_eq.mpr c79
              clear c79
              by_cases c80:x7_1.length < 17592186044416
              ·rw [if_pos c80] at H
               have LMc80:=Aside0.mk c80
               clear c80
               obtain ⟨y138,hy138⟩:∃ y_:List Int,y_ = (x7_1 ++ [x30_1]):=⟨_,rfl⟩
               replace H:(q9.l2 k1 l2 y138 (rd l0_1 a1) (l0_0.length:Int) (wrap64 (x30_1 + 1)) l0_0 l0_1) = some r:=by first|(rw [hy138];with_reducible exact H)|(have H2_:=(Option.bind_some _ _).symm.trans H;rw [hy138];with_reducible exact H2_)|(have H2_:=(Option.bind_some _ _).symm.trans H;with_reducible exact H2_)|with_reducible exact H|(rw [hy138];exact H)|exact H
               have Ny138:=Aside0.mk hy138
               clear hy138
               have H':=Aside0.mk H
               clear H
               have hcz81_0:wr.cell? ⟨gb101,0,none⟩ = some (.slice (some ad106) l0_0.length c0_0):=(blk_cell BK101.out 0).trans rfl
               have hcz81_1:wr.cell? ⟨gb101,1,none⟩ = some (.slice (some ad105) l0_1.length c0_1):=(blk_cell BK101.out 1).trans rfl
               have hfz81_0:=blk_frozen BK101.out 0
               have hfz81_1:=blk_frozen BK101.out 1
               go_wp2_with (first|(go_at_call 48;(with_reducible refine (q3.calls k1 _ _ l0_0 _ _ l0_1 x30_1 (rd l0_1 a1) true _ ?side1 ?side2 ?side3 ?side4 A73.out).mono ?_);(case side1=>exact cq (Kd.C_below HR0_0.out HB.out));(case side2=>exact HC0_0.out);(case side3=>exact cq (Kd.C_below HR0_1.out HB.out));(case side4=>exact HC0_1.out);rintro e w82 ⟨rfl,hb⟩;have n0_:=zk (Kd.R_below (rq HO_7.out) hb);have n1_:=zk (blk_below (g:=gb101) (o:=.cells #[.slice (some ad106) l0_0.length c0_0,.slice (some ad105) l0_1.length c0_1] 25 (0,0)) (hq BK101.out) hb);have n2_:=zk (below_step (bg HB.out GE101 GE101) hb);clear HO_7;clear BK101;clear HB;have HO_7:=n0_;have BK101:=n1_;have HB:=n2_;clear n0_ n1_ n2_;(try clear hb);(try clear hb2);(try clear hk);(try clear hi))|(go_at_call 57;(with_reducible refine (q17.calls _ _ l2 (rd l0_1 a1) t137 _ ?side1 ?side2 A75.out).mono ?_);(case side1=>exact cq (Kd.C_below HR2.out HB.out));(case side2=>exact HC2.out);rintro e w' ⟨rfl,⟨nd,rfl⟩⟩)|((with_reducible refine gate_builtin (b:=.append) (xs:=#[.tmp 52,.tmp 54]) rfl ?_);at_builtin;refine Kd.R_append (Kd.int .i64) (w0:=w) w.heap.size rfl (.tmp 52) (.tmp 54) 22 3 (.int .i64 0) 8 rfl Try.underlying22 info3 rfl (by decide) (by omega) u7 x7_1 x30_1 [.int .i64 x30_1] (fun _=>True) (fun _=>False) rfl rfl ?aP (fun _ hk=>hk.elim) ?aF ?aO ?aB ?aS ?aL ?_;(case aP=>exact rfl);(case aB=>exact (bg HB.out GE101 GE101));(case aF=>exact (fun _ _=>trivial));(case aO=>exact (rq HO_7.out));(case aS=>exact (below_size (bg HB.out GE101 GE101)));(case aL=>have:=LMc80.out;omega);intro v139 w83 ho hb hg hat;rw [← Ny138.out] at ho;have n0_:=zk (blk_grown (g:=gb101) (o:=.cells #[.slice (some ad106) l0_0.length c0_0,.slice (some ad105) l0_1.length c0_1] 25 (0,0)) (hq BK101.out) hg (Kd.R_ne HO_7.out BK101.out (by decide)));have n1_:=zk (hb);have n2_:=zk (ho);clear BK101;clear HB;clear HO_7;have BK101:=n0_;have HB:=n1_;have HO140:=n2_;clear n0_ n1_ n2_;clear ho hb hg hat))
               go_roundg k1
               case measure=>have:=HK1.out;omega
               case rel=>exact ⟨(y138),(wrap64 (x30_1 + 1)),oE,(by first|exact H'|exact ⟨by simp only [hji76,hji78];exact H'.out⟩),⟨by have:=HK1.out;omega⟩,⟨rq HO140.out⟩,⟨hq BK101.out⟩,⟨bg HB.out GE101 GE101⟩⟩
              ·rw [if_neg c80] at H
               exact absurd H (by simp)
             ·rw [if_neg c79] at H
              have c79b0:((Go.bits .and .u32 (ji78) 1) == 1) = false:=beq_eq_false_iff_ne.mpr c79
              have c79b1:((Go.bits .and .u32 (ji78) 1) != 1) = true:=bne_iff_ne.mpr c79
              have H':=Aside0.mk H
              clear H
              have hcz84_0:wr.cell? ⟨gb101,0,none⟩ = some (.slice (some ad106) l0_0.length c0_0):=(blk_cell BK101.out 0).trans rfl
              have hcz84_1:wr.cell? ⟨gb101,1,none⟩ = some (.slice (some ad105) l0_1.length c0_1):=(blk_cell BK101.out 1).trans rfl
              have hfz84_0:=blk_frozen BK101.out 0
              have hfz84_1:=blk_frozen BK101.out 1
              go_wp2_with (first|(go_at_call 48;(with_reducible refine (q3.calls k1 _ _ l0_0 _ _ l0_1 x30_1 (rd l0_1 a1) true _ ?side1 ?side2 ?side3 ?side4 A73.out).mono ?_);(case side1=>exact cq (Kd.C_below HR0_0.out HB.out));(case side2=>exact HC0_0.out);(case side3=>exact cq (Kd.C_below HR0_1.out HB.out));(case side4=>exact HC0_1.out);rintro e w85 ⟨rfl,hb⟩;have n0_:=zk (Kd.R_below (rq HO_7.out) hb);have n1_:=zk (blk_below (g:=gb101) (o:=.cells #[.slice (some ad106) l0_0.length c0_0,.slice (some ad105) l0_1.length c0_1] 25 (0,0)) (hq BK101.out) hb);have n2_:=zk (below_step (bg HB.out GE101 GE101) hb);clear HO_7;clear BK101;clear HB;have HO_7:=n0_;have BK101:=n1_;have HB:=n2_;clear n0_ n1_ n2_;(try clear hb);(try clear hb2);(try clear hk);(try clear hi))|(go_at_call 57;(with_reducible refine (q17.calls _ _ l2 (rd l0_1 a1) t137 _ ?side1 ?side2 A75.out).mono ?_);(case side1=>exact cq (Kd.C_below HR2.out HB.out));(case side2=>exact HC2.out);rintro e w' ⟨rfl,⟨nd,rfl⟩⟩))
              go_roundg k1
              case measure=>have:=HK1.out;omega
              case rel=>exact ⟨(x7_1),(wrap64 (x30_1 + 1)),oE,(by first|exact H'|exact ⟨by simp only [hji76,hji78];exact H'.out⟩),⟨by have:=HK1.out;omega⟩,⟨rq HO_7.out⟩,⟨hq BK101.out⟩,⟨bg HB.out GE101 GE101⟩⟩
            ·rw [if_neg c77] at H
             exact absurd H (by simp)
           ·replace c74:=Bool.eq_false_iff.mpr c74
            subst c74
            have H1:(q9.l2 k1 l2 x7_1 (rd l0_1 a1) (l0_0.length:Int) (wrap64 (x30_1 + 1)) l0_0 l0_1) = some r:=by rw [if_neg (show ¬ (false = true) by decide)] at H;exact H
            clear H
            have H:=H1
            clear H1
            have H':=Aside0.mk H
            clear H
            have hcz86_0:wr.cell? ⟨gb101,0,none⟩ = some (.slice (some ad106) l0_0.length c0_0):=(blk_cell BK101.out 0).trans rfl
            have hcz86_1:wr.cell? ⟨gb101,1,none⟩ = some (.slice (some ad105) l0_1.length c0_1):=(blk_cell BK101.out 1).trans rfl
            have hfz86_0:=blk_frozen BK101.out 0
            have hfz86_1:=blk_frozen BK101.out 1
            go_wp2_with (first|(go_at_call 48;(with_reducible refine (q3.calls k1 _ _ l0_0 _ _ l0_1 x30_1 (rd l0_1 a1) false _ ?side1 ?side2 ?side3 ?side4 A73.out).mono ?_);(case side1=>exact cq (Kd.C_below HR0_0.out HB.out));(case side2=>exact HC0_0.out);(case side3=>exact cq (Kd.C_below HR0_1.out HB.out));(case side4=>exact HC0_1.out);rintro e w87 ⟨rfl,hb⟩;have n0_:=zk (Kd.R_below (rq HO_7.out) hb);have n1_:=zk (blk_below (g:=gb101) (o:=.cells #[.slice (some ad106) l0_0.length c0_0,.slice (some ad105) l0_1.length c0_1] 25 (0,0)) (hq BK101.out) hb);have n2_:=zk (below_step (bg HB.out GE101 GE101) hb);clear HO_7;clear BK101;clear HB;have HO_7:=n0_;have BK101:=n1_;have HB:=n2_;clear n0_ n1_ n2_;(try clear hb);(try clear hb2);(try clear hk);(try clear hi)))
            go_roundg k1
            case measure=>have:=HK1.out;omega
            case rel=>exact ⟨(x7_1),(wrap64 (x30_1 + 1)),oE,H',⟨by have:=HK1.out;omega⟩,⟨rq HO_7.out⟩,⟨hq BK101.out⟩,⟨bg HB.out GE101 GE101⟩⟩
         ·rw [if_neg c71] at H
          have c71b0:decide (x30_1 < (l0_0.length:Int)) = false:=decide_eq_false c71
          clear c71
          by_cases c88:(x7_1.length:Int) = 0
          ·rw [if_pos c88] at H
           have c88b0:((x7_1.length:Int) == 0) = true:=beq_iff_eq.mpr c88
           have c88b1:((x7_1.length:Int) != 0) = false:=bne_eq_false_iff_eq.mpr c88
           clear c88
           replace H:=Option.bind_eq_some_iff.mp H
           obtain ⟨t141,A890,H⟩:=H
           replace H:((q9.f k1 l0_0 l0_1 t141 l2).bind fun t142=>(some t142)) = some r:=H
           have A89:=Aside0.mk A890
           clear A890
           replace H:=Option.bind_eq_some_iff.mp H
           obtain ⟨t142,A900,H⟩:=H
           replace H:(some t142) = some r:=H
           have A90:=Aside0.mk A900
           clear A900
           obtain rfl:=Option.some.inj H
           obtain ⟨Ao91,co91,eo91⟩:=Kd.R_slice HO_7.out
           subst eo91
           try go_wp2
           have n0_:=zk (Kd.R_drew HO_7.out)
           have n1_:=zk (blk_drew BK101.out)
           have n2_:=zk (below_drew1 HB.out)
           clear HO_7
           clear BK101
           clear HB
           have HO_7:=n0_
           have BK101:=n1_
           have HB:=n2_
           clear n0_ n1_ n2_
           refine start_ (n:=7) (S:=fun w'=>w'.cell? ⟨gb101,0,none⟩ = some (.slice (some ad106) l0_0.length c0_0) ∧ w'.cell? ⟨gb101,1,none⟩ = some (.slice (some ad105) l0_1.length c0_1)) (ds:=[]) #[false,false,false,false,false,false,false] (by kernel_rfl) rfl rfl ⟨(blk_cell BK101.out 0).trans rfl,(blk_cell BK101.out 1).trans rfl⟩ (fun hHeld=>?_)
           generalize wr.drew = w92 at HO_7 BK101 HB hHeld ⊢
           refine pure_ (i:=2) (N:=some 62) (v:=?_) (a':=?_) #[false,false,true,false,false,false,false] rfl rfl (by kernel_rfl) (fun _ _ _ h=>h) (Or.inl ⟨by rfl,?_⟩) ?_ ?_
           rotate_left
           ·intro w'
            go_simp
            with_reducible rfl
           rotate_left
           ·simp only [Act.put,List.setIfInBounds_toArray,List.set_cons_zero,List.set_cons_succ,i64_w,i32_w]
            rfl
           refine pure_ (i:=4) (N:=some 64) (v:=?_) (a':=?_) #[false,false,true,false,true,false,false] rfl rfl (by kernel_rfl) (fun _ _ _ h=>h) (Or.inl ⟨by rfl,?_⟩) ?_ ?_
           rotate_left
           ·intro w'
            go_simp
            with_reducible rfl
           rotate_left
           ·simp only [Act.put,List.setIfInBounds_toArray,List.set_cons_zero,List.set_cons_succ,i64_w,i32_w]
            rfl
           refine take_ (i:=0) (N:=some 60) (v:=?_) (a':=?_) #[true,false,true,false,true,false,false] rfl rfl (by kernel_rfl) (fun _ _ _ h=>h) (Or.inl ⟨by rfl,?_⟩) hHeld ?_ ?_
           rotate_left
           ·rintro w' ⟨s0,s1⟩
            go_simp
            with_reducible rfl
           rotate_left
           ·simp only [Act.put,List.setIfInBounds_toArray,List.set_cons_zero,List.set_cons_succ,i64_w,i32_w]
            rfl
           refine take_ (i:=1) (N:=some 61) (v:=?_) (a':=?_) #[true,true,true,false,true,false,false] rfl rfl (by kernel_rfl) (fun _ _ _ h=>h) (Or.inl ⟨by rfl,?_⟩) hHeld ?_ ?_
           rotate_left
           ·rintro w' ⟨s0,s1⟩
            go_simp
            with_reducible rfl
           rotate_left
           ·simp only [Act.put,List.setIfInBounds_toArray,List.set_cons_zero,List.set_cons_succ,i64_w,i32_w]
            rfl
           refine one_ (i:=3) (N:=some 63) #[true,true,true,true,true,false,false] rfl rfl (by kernel_rfl) (by decide) (fun K hK=>?_)
           refine goes_ Try.func47 (by kernel_rfl) rfl #[.agg #[.slice (some ad106) l0_0.length c0_0,.slice (some ad105) l0_1.length c0_1],.int .i64 (rd l0_1 a1)] (by rfl) rfl rfl oF ?_
           with_reducible refine (q1.calls k1 _ _ l0_0 _ _ l0_1 (rd l0_1 a1) t141 _ ?side1 ?side2 ?side3 ?side4 A89.out).mono ?_
           (case side1=>exact cq (Kd.C_below HR0_0.out HB.out))
           (case side2=>exact HC0_0.out)
           (case side3=>exact cq (Kd.C_below HR0_1.out HB.out))
           (case side4=>exact HC0_1.out)
           rintro e w93 ⟨rfl,hb⟩
           refine ⟨_,rfl,?_⟩
           have n0_:=zk (Kd.R_below (rq HO_7.out) hb)
           have n1_:=zk (blk_below (g:=gb101) (o:=.cells #[.slice (some ad106) l0_0.length c0_0,.slice (some ad105) l0_1.length c0_1] 25 (0,0)) (hq BK101.out) hb)
           have n2_:=zk (below_step (bg HB.out GE101 GE101) hb)
           clear HO_7
           clear BK101
           clear HB
           have HO_7:=n0_
           have BK101:=n1_
           have HB:=n2_
           clear n0_ n1_ n2_
           (try clear hb)
           (try clear hb2)
           (try clear hk)
           (try clear hi)
           refine hK.out _ _ ⟨(blk_cell BK101.out 0).trans rfl,(blk_cell BK101.out 1).trans rfl⟩ (fun hHeld=>?_)
           clear hK K
           refine norm_ (a':=?_) ?_ ?_
           rotate_left
           ·show Act.put _ (some 63) _ = _
            simp only [Act.put,List.setIfInBounds_toArray,List.set_cons_zero,List.set_cons_succ,i64_w,i32_w]
            rfl
           refine one_ (i:=5) (N:=some 65) #[true,true,true,true,true,true,false] rfl rfl (by kernel_rfl) (by decide) (fun K hK=>?_)
           refine goes_ Try.func56 (by kernel_rfl) rfl #[.agg #[.slice (some ad106) l0_0.length c0_0,.slice (some ad105) l0_1.length c0_1],.int .i64 t141,.slice A2 l2.length c2] (by rfl) rfl rfl oF ?_
           with_reducible refine (ih k1 (by have:=HK1.out;omega) _ _ l0_0 _ _ l0_1 t141 _ _ l2 t142 _ ?side1 ?side2 ?side3 ?side4 ?side5 ?side6 A90.out).mono ?_
           (case side1=>exact cq (Kd.C_below HR0_0.out HB.out))
           (case side2=>exact HC0_0.out)
           (case side3=>exact cq (Kd.C_below HR0_1.out HB.out))
           (case side4=>exact HC0_1.out)
           (case side5=>exact cq (Kd.C_below HR2.out HB.out))
           (case side6=>exact HC2.out)
           rintro e w94 ⟨v143,rfl,ho0,hb⟩
           refine ⟨_,rfl,?_⟩
           have n0_:=zk (Kd.R_elder' (rq HO_7.out) (Kd.R_base ho0) hb)
           have n1_:=zk (Kd.R_lower (Kd.R_new' ho0 (Kd.R_lt (rq HO_7.out))) (below_size (bg HB.out GE101 GE101)))
           have n2_:=zk (blk_below (g:=gb101) (o:=.cells #[.slice (some ad106) l0_0.length c0_0,.slice (some ad105) l0_1.length c0_1] 25 (0,0)) (hq BK101.out) hb)
           have n3_:=zk (below_step (bg HB.out GE101 GE101) hb)
           clear HO_7
           clear BK101
           clear HB
           have HO_7:=n0_
           have HO144:=n1_
           have BK101:=n2_
           have HB:=n3_
           clear n0_ n1_ n2_ n3_
           (try clear hb)
           (try clear hb2)
           (try clear hk)
           (try clear hi)
           (try clear ho0)
           refine hK.out _ _ ⟨(blk_cell BK101.out 0).trans rfl,(blk_cell BK101.out 1).trans rfl⟩ (fun hHeld=>?_)
           clear hK K
           refine norm_ (a':=?_) ?_ ?_
           rotate_left
           ·show Act.put _ (some 65) _ = _
            simp only [Act.put,List.setIfInBounds_toArray,List.set_cons_zero,List.set_cons_succ,i64_w,i32_w]
            rfl
           refine pure_ (i:=6) (N:=some 6) (v:=?_) (a':=?_) #[true,true,true,true,true,true,true] rfl rfl (by kernel_rfl) (fun _ _ _ h=>h) (Or.inl ⟨by rfl,?_⟩) ?_ ?_
           rotate_left
           ·intro w'
            go_simp
            with_reducible rfl
           rotate_left
           ·simp only [Act.put,List.setIfInBounds_toArray,List.set_cons_zero,List.set_cons_succ,i64_w,i32_w]
            rfl
           refine done_ (by kernel_rfl) ?_
           try go_wp2
           go_ret
           exact ⟨_,by first|rfl|(simp [errW_none,errW_some] <;> rfl)|(simp [*,errW_none,errW_some] <;> rfl),rq (Kd.R_mono HO144.out (fun _ hk=>trivial)),bg HB.out GE101 GE101⟩
          ·rw [if_neg c88] at H
           have c88b0:((x7_1.length:Int) == 0) = false:=beq_eq_false_iff_ne.mpr c88
           have c88b1:((x7_1.length:Int) != 0) = true:=bne_iff_ne.mpr c88
           have c88b2:¬ (x7_1 = []):=fun h_=>c88 (by rw [h_];rfl)
           obtain rfl:=Option.some.inj H
           obtain ⟨Ao95,co95,eo95⟩:=Kd.R_slice HO_7.out
           subst eo95
           go_wp2
           go_ret
           exact ⟨_,by first|rfl|(simp [errW_none,errW_some] <;> rfl)|(simp [*,errW_none,errW_some] <;> rfl),rq HO_7.out,bg HB.out GE101 GE101⟩
   ·rw [if_neg c6] at H
    exact absurd H (by simp)
  ·rw [if_neg c5] at H
   exact absurd H (by simp)
 ·rw [if_neg c4] at H
  exact absurd H (by simp)
end Go.Proofs.Ytnomeokicfpidaa.Q
