-- merged and slimmed by slim.py (a program of this repo)
import Derived.Test.YtnomeokicfpidaaKEnterTells1
import Derived.Test.YtnomeokicfpidaaKEnterTells7
import Derived.Test.YtnomeokicfpidaaKEnterTells10
import Derived.Test.YtnomeokicfpidaaKEnterTells11
namespace Go.Proofs.Ytnomeokicfpidaa.Q
open Go.RowKit Go.Proofs.YtnomeokicfpidaaW.PrintWords Go.Proofs.YtnomeokicfpidaaW.PrintLast Go.Proofs.YtnomeokicfpidaaW.PrintMore
attribute [local go_sem] max2_int min2_int max_two min_two max_three min_three max_four min_four
set_option linter.unusedVariables false
set_option linter.unusedSimpArgs false
def q10.j0:Nat → Int → Int → List (List Int) → Int → List Int → List Int → List Int → List Int → Option (Bool)
 | 0,_,_,_,_,_,_,_,_=>none
 | k + 1,x2,x3,x4,x14,x114000,x114001,x115000,x115001=>(q2.f k x115000 x115001 x2 x3).bind fun t119=>((q21.f k x115000 x115001 x4).bind fun t120=>((q5.f k x115000 x115001 x14 t119).bind fun t123=>((q8.f t120).bind fun t126=>((q34.f k x114000 x114001 x14 t119).bind fun t129=>((q14.f k t129 t123).bind fun t132=>(if t132 = true then ((q32.f x114000 x114001 t119 x3 t126).bind fun t133=>((q4.f k x115000 x115001 t119 x3 t120).bind fun t136=>((q14.f k t133 t136).bind fun t139=>(if t139 = true then ((q35.f x114000 x114001).bind fun t140=>((q6.f k x115000 x115001).bind fun t143=>((q14.f k t140 t143).bind fun t146=>(if t146 = true then ((q26.f k x114000 x114001 x14 t123 t126).bind fun t147=>((q0.f k x115000 x115001 x14 t123 t120).bind fun t150=>((q11.f k t147 t150).bind fun t153=>(if t153 = true then ((q11.f k t126 t120).bind fun t154=>(if t154 = true then ((q18.f k).bind fun t155=>(some t155)) else (some false))) else (some false))))) else (some false))))) else (some false))))) else (some false)))))))
def q10.f (k:Nat) (l0:List Int) (l1:List Int) (a2:Int) (a3:Int) (l4:List (List Int)):Option (Bool):=(q23.f k l0).bind fun bt101=>((q16.f k bt101.2.2.1 bt101.2.2.2 l1).bind fun t115=>((q20.f a2 (bt101.2.2.1.length:Int)).bind fun t116=>((q20.f a3 (bt101.2.2.1.length:Int)).bind fun t117=>(if 0 ≤ t116 then (if t116 < (bt101.2.2.1.length:Int) then (if (rd bt101.2.2.1 t116) ≥ 3 then (q10.j0 k 0 t117 l4 t115 bt101.1 bt101.2.1 bt101.2.2.1 bt101.2.2.2) else (q10.j0 k t116 t117 l4 t115 bt101.1 bt101.2.1 bt101.2.2.1 bt101.2.2.2)) else (none)) else (none)))))
def q10.T11:Bool × List (List Nat × List Nat):=(true,[([],[]),([],[]),([],[]),([0,1,2],[0,1,2]),([],[]),([3,4,3],[3,4]),([5,5],[5]),([6],[6]),([6],[6]),([6],[6]),([6],[6]),([7,8,9,10,6,6],[6,7,8,9,10]),([6],[6]),([6],[6]),([6],[6]),([6],[6]),([12,13,14,15,11,6],[6,12,13,14,15]),([11,16,16,6],[6,11,16]),([6,17],[6,17]),([18,17],[18]),([19],[19]),([20,19,19],[19,20]),([19],[19]),([22,21,19],[19,22]),([21,23,23,19],[19,21,23]),([19,24],[19,24]),([25,24],[25]),([26],[26]),([26],[26]),([26],[26]),([26],[26]),([27,28,29,30,26,26],[26,27,28,29,30]),([26],[26]),([26],[26]),([26],[26]),([26],[26]),([32,33,34,35,31,26],[26,32,33,34,35]),([31,36,36,26],[26,31,36]),([26,37],[26,37]),([38,37],[38]),([39],[39]),([39],[39]),([40,41,39,39],[39,40,41]),([39,42],[39,42]),([43,42],[43]),([44,44],[44]),([44,45],[44,45]),([46,45,0,1,2,3,4,5,6,7,8,9,10,11,12,13,14,15,16,17,18,19,20,21,22,23,24,25,26,27,28,29,30,31,32,33,34,35,36,37,38,39,40,41,42,43,44,45,46],[46])])
def q10.B11:List Nat:=[0,0,0,7,0,31,63,127,127,127,127,2047,127,127,127,127,65535,131071,262143,524287,1048575,2097151,1048575,8388607,16777215,33554431,67108863,134217727,134217727,134217727,134217727,2147483647,134217727,134217727,134217727,134217727,68719476735,137438953471,274877906943,549755813887,1099511627775,1099511627775,4398046511103,8796093022207,17592186044415,35184372088831,70368744177663,140737488355327]
theorem imprimaturlaw07_EnterTells.tab11:rtab .any (opsOf Try.f10 11) = q10.T11:=by kernel_rfl
theorem imprimaturlaw07_EnterTells.bits11:waitsOk q10.T11.2 q10.B11 = true:=by kernel_rfl
set_option maxHeartbeats 8000000 in
set_option maxRecDepth 100000 in
theorem q10.calls (k:Nat) (A0:Option Addr) (c0:Nat) (l0:List Int) (A1:Option Addr) (c1:Nat) (l1:List Int) (a2:Int) (a3:Int) (A4:Option Addr) (c4:Nat) (l4:List (List Int)) (r:Bool) (w:World) (hr0:Kd.C (Kd.int .i64) w A0 l0.length l0) (hc0:l0.length ≤ c0) (hr1:Kd.C (Kd.int .i64) w A1 l1.length l1) (hc1:l1.length ≤ c1) (hr4:Kd.C (Kd.slice 3 (Kd.int .i64)) w A4 l4.length l4) (hc4:l4.length ≤ c4) (h:q10.f k l0 l1 a2 a3 l4 = some r) (hrt_:Aside0 (r = true)) :
  Calls Try.prog 10 #[.slice A0 l0.length c0,.slice A1 l1.length c1,.int .i64 a2,.int .i64 a3,.slice A4 l4.length c4] w fun e w'=>e = .returned (.bool r) ∧ Below w.heap.size w w':=by
 have hu24:=Try.underlying24
 have hu25:=Try.underlying25
 have HR0:=Aside0.mk hr0
 have HC0:=Aside0.mk hc0
 clear hr0 hc0
 have HR1:=Aside0.mk hr1
 have HC1:=Aside0.mk hc1
 clear hr1 hc1
 have HR4:=Aside0.mk hr4
 have HC4:=Aside0.mk hc4
 clear hr4 hc4
 have HB:=zk (Below.refl w.heap.size w)
 have H:((q23.f k l0).bind fun bt101=>((q16.f k bt101.2.2.1 bt101.2.2.2 l1).bind fun t115=>((q20.f a2 (bt101.2.2.1.length:Int)).bind fun t116=>((q20.f a3 (bt101.2.2.1.length:Int)).bind fun t117=>(if 0 ≤ t116 then (if t116 < (bt101.2.2.1.length:Int) then (if (rd bt101.2.2.1 t116) ≥ 3 then (q10.j0 k 0 t117 l4 t115 bt101.1 bt101.2.1 bt101.2.2.1 bt101.2.2.2) else (q10.j0 k t116 t117 l4 t115 bt101.1 bt101.2.1 bt101.2.2.1 bt101.2.2.2)) else (none)) else (none)))))) = some r:=h
 clear h
 replace H:=Option.bind_eq_some_iff.mp H
 obtain ⟨⟨t101,t104,t107,t110⟩,A60,H⟩:=H
 replace H:((q16.f k t107 t110 l1).bind fun t115=>((q20.f a2 (t107.length:Int)).bind fun t116=>((q20.f a3 (t107.length:Int)).bind fun t117=>(if 0 ≤ t116 then (if t116 < (t107.length:Int) then (if (rd t107 t116) ≥ 3 then (q10.j0 k 0 t117 l4 t115 t101 t104 t107 t110) else (q10.j0 k t116 t117 l4 t115 t101 t104 t107 t110)) else (none)) else (none))))) = some r:=H
 have A6:=Aside0.mk A60
 clear A60
 replace H:=Option.bind_eq_some_iff.mp H
 obtain ⟨t115,A70,H⟩:=H
 replace H:((q20.f a2 (t107.length:Int)).bind fun t116=>((q20.f a3 (t107.length:Int)).bind fun t117=>(if 0 ≤ t116 then (if t116 < (t107.length:Int) then (if (rd t107 t116) ≥ 3 then (q10.j0 k 0 t117 l4 t115 t101 t104 t107 t110) else (q10.j0 k t116 t117 l4 t115 t101 t104 t107 t110)) else (none)) else (none)))) = some r:=H
 have A7:=Aside0.mk A70
 clear A70
 replace H:=Option.bind_eq_some_iff.mp H
 obtain ⟨t116,A80,H⟩:=H
 replace H:((q20.f a3 (t107.length:Int)).bind fun t117=>(if 0 ≤ t116 then (if t116 < (t107.length:Int) then (if (rd t107 t116) ≥ 3 then (q10.j0 k 0 t117 l4 t115 t101 t104 t107 t110) else (q10.j0 k t116 t117 l4 t115 t101 t104 t107 t110)) else (none)) else (none))) = some r:=H
 have A8:=Aside0.mk A80
 clear A80
 replace H:=Option.bind_eq_some_iff.mp H
 obtain ⟨t117,A90,H⟩:=H
 replace H:(if 0 ≤ t116 then (if t116 < (t107.length:Int) then (if (rd t107 t116) ≥ 3 then (q10.j0 k 0 t117 l4 t115 t101 t104 t107 t110) else (q10.j0 k t116 t117 l4 t115 t101 t104 t107 t110)) else (none)) else (none)) = some r:=H
 have A9:=Aside0.mk A90
 clear A90
 by_cases c10:0 ≤ t116
 ·rw [if_pos c10] at H
  have c10b0:decide (0 ≤ t116) = true:=decide_eq_true c10
  clear c10
  by_cases c11:t116 < (t107.length:Int)
  ·rw [if_pos c11] at H
   have c11b0:decide (t116 < (t107.length:Int)) = true:=decide_eq_true c11
   clear c11
   have HC12:=Aside0.mk H
   clear H
   go_enter Try.func10,Try.ntmps10
   go_upto_if 41 with (first|((with_reducible refine gate_callee (f:=13) rfl ?_);refine goesL_ (some 21) rfl rfl Try.func13 (by kernel_rfl) rfl #[.slice A0 l0.length c0] rfl oF ?_;(with_reducible refine (q23.calls k _ _ l0 t101 t104 t107 t110 _ ?side1 ?side2 A6.out).mono ?_);(case side1=>exact cq HR0.out);(case side2=>exact HC0.out);rintro e w13 ⟨v102,v105,v108,v111,rfl,ho0,ho1,ho2,ho3,hb⟩;refine ⟨_,rfl,?_⟩;have n0_:=zk (Kd.R_lower ho0 (below_size (bq HB.out)));have n1_:=zk (Kd.R_lower ho1 (below_size (bq HB.out)));have n2_:=zk (Kd.R_lower ho2 (below_size (bq HB.out)));have n3_:=zk (Kd.R_lower ho3 (below_size (bq HB.out)));have n4_:=zk (below_step (bq HB.out) hb);clear HB;have HO103:=n0_;have HO106:=n1_;have HO109:=n2_;have HO112:=n3_;have HB:=n4_;clear n0_ n1_ n2_ n3_ n4_;(try clear hb);(try clear hb2);(try clear hk);(try clear hi);(try clear ho0);(try clear ho1);(try clear ho2);(try clear ho3))|((with_reducible refine gate_dst (N:=11) rfl ?_);refine box_event ?hg (N:=11) ?hd (cs:=#[.slice none 0 0,.slice none 0 0]) (t:=24) ?hr ?_;(case hd=>rfl);(case hg=>rfl);(case hr=>first|(go_simp;done)|(go_simp;rfl));intro gb113 hg w14 hbox hb;have n0_:=zk (Kd.R_below (rq HO103.out) hb);have n1_:=zk (Kd.R_below (rq HO106.out) hb);have n2_:=zk (Kd.R_below (rq HO109.out) hb);have n3_:=zk (Kd.R_below (rq HO112.out) hb);have n4_:=zk (below_step (bq HB.out) hb);have n5_:=zk (hbox);have n6_:=zk ((by rw [hg];exact (below_size (bq HB.out)):w.heap.size ≤ gb113));have n7_:=zk ((by rw [hg];exact (below_size (bq HB.out)):w.heap.size ≤ gb113));clear HO103;clear HO106;clear HO109;clear HO112;clear HB;have HO103:=n0_;have HO106:=n1_;have HO109:=n2_;have HO112:=n3_;have HB:=n4_;have BK113:=n5_;have GW113:=n6_;have GE113:=n7_;clear n0_ n1_ n2_ n3_ n4_ n5_ n6_ n7_;clear hb hbox hg)|((with_reducible refine gate_dst (N:=12) rfl ?_);refine box_event ?hg (N:=12) ?hd (cs:=#[.slice none 0 0,.slice none 0 0]) (t:=25) ?hr ?_;(case hd=>rfl);(case hg=>rfl);(case hr=>first|(go_simp;done)|(go_simp;rfl));intro gb114 hg w15 hbox hb;have n0_:=zk (Kd.R_below (rq HO103.out) hb);have n1_:=zk (Kd.R_below (rq HO106.out) hb);have n2_:=zk (Kd.R_below (rq HO109.out) hb);have n3_:=zk (Kd.R_below (rq HO112.out) hb);have n4_:=zk (blk_below (g:=gb113) (o:=.cells #[.slice none 0 0,.slice none 0 0] 24 (0,0)) (hq BK113.out) hb);have n5_:=zk (below_step (bg HB.out GE113 GE113) hb);have n6_:=zk (hbox);have n7_:=zk ((by rw [hg];exact (below_size (bg HB.out GE113 GE113)):w.heap.size ≤ gb114));have n8_:=zk ((by rw [hg];exact (below_size (bg HB.out GE113 GE113)):w.heap.size ≤ gb114));have n9_:=zk ((by rw [hg];exact Nat.ne_of_lt (blk_lt (g:=gb113) (o:=.cells #[.slice none 0 0,.slice none 0 0] 24 (0,0)) (hq BK113.out)):gb113 ≠ gb114));have n10_:=zk ((by rw [hg];exact Nat.ne_of_gt (blk_lt (g:=gb113) (o:=.cells #[.slice none 0 0,.slice none 0 0] 24 (0,0)) (hq BK113.out)):gb114 ≠ gb113));clear HO103;clear HO106;clear HO109;clear HO112;clear BK113;clear HB;have HO103:=n0_;have HO106:=n1_;have HO109:=n2_;have HO112:=n3_;have BK113:=n4_;have HB:=n5_;have BK114:=n6_;have GW114:=n7_;have GE114:=n8_;have NB113_114:=n9_;have NB114_113:=n10_;clear n0_ n1_ n2_ n3_ n4_ n5_ n6_ n7_ n8_ n9_ n10_;clear hb hbox hg;obtain ⟨Ao16,co16,eo16⟩:=Kd.R_slice HO103.out;subst eo16;have hnb17:=NB113_114.out;have hnc17:=NB114_113.out;have hcz18_0:w15.cell? ⟨gb113,0,none⟩ = some (.slice none 0 0):=(blk_cell BK113.out 0).trans rfl;have hcz18_1:w15.cell? ⟨gb113,1,none⟩ = some (.slice none 0 0):=(blk_cell BK113.out 1).trans rfl;have hfz18_0:=blk_frozen BK113.out 0;have hfz18_1:=blk_frozen BK113.out 1;obtain ⟨Ao19,co19,eo19⟩:=Kd.R_slice HO106.out;subst eo19;obtain ⟨Ao20,co20,eo20⟩:=Kd.R_slice HO109.out;subst eo20;have hcz21_0:w15.cell? ⟨gb114,0,none⟩ = some (.slice none 0 0):=(blk_cell BK114.out 0).trans rfl;have hcz21_1:w15.cell? ⟨gb114,1,none⟩ = some (.slice none 0 0):=(blk_cell BK114.out 1).trans rfl;have hfz21_0:=blk_frozen BK114.out 0;have hfz21_1:=blk_frozen BK114.out 1;obtain ⟨Ao22,co22,eo22⟩:=Kd.R_slice HO112.out;subst eo22)|((with_reducible refine gate_callee (f:=18) rfl ?_);refine goesL_ (some 29) rfl rfl Try.func18 (by kernel_rfl) rfl #[.agg #[.slice Ao20 t107.length co20,.slice Ao22 t110.length co22],.slice A1 l1.length c1] rfl oF ?_;(with_reducible refine (q16.calls k _ _ t107 _ _ t110 _ _ l1 t115 _ ?side1 ?side2 ?side3 ?side4 ?side5 ?side6 A7.out).mono ?_);(case side1=>refine (Kd.R_reads' (e:=3) (base:=w.heap.size) (ok:=fun k_=>(some k_ ≠ (.slice Ao16 t101.length co16:Value).ownBlock ∧ (some k_ ≠ (.slice Ao19 t104.length co19:Value).ownBlock ∧ some k_ ≠ (.slice Ao22 t110.length co22:Value).ownBlock))) (n:=t107.length) (c:=co20) ?_).2.2;exact (rq ((Kd.R_mono (Kd.R_mono (Kd.R_far (p:=⟨gb114,1,none⟩) (Kd.R_far (p:=⟨gb114,0,none⟩) (Kd.R_far (p:=⟨gb113,1,none⟩) (Kd.R_far (p:=⟨gb113,0,none⟩) (Kd.R_types (Kd.R_types HO109.out BK113.out (by decide)) BK114.out (by decide)) (fun _ hk=>hk.1.2) (.slice Ao16 t101.length co16)) (fun _ hk=>hk.1.2) (.slice Ao19 t104.length co19)) (fun _ hk=>hk.2) (.slice Ao20 t107.length co20)) (fun _ hk=>hk.2) (.slice Ao22 t110.length co22)) (fun _ h_=>h_.1)) (fun _ h_=>h_.1)))));(case side2=>exact (Kd.R_reads' HO109.out).2.1);(case side3=>refine (Kd.R_reads' (e:=3) (base:=w.heap.size) (ok:=fun k_=>(some k_ ≠ (.slice Ao16 t101.length co16:Value).ownBlock ∧ (some k_ ≠ (.slice Ao19 t104.length co19:Value).ownBlock ∧ some k_ ≠ (.slice Ao20 t107.length co20:Value).ownBlock))) (n:=t110.length) (c:=co22) ?_).2.2;exact (rq ((Kd.R_mono (Kd.R_mono (Kd.R_far (p:=⟨gb114,1,none⟩) (Kd.R_far (p:=⟨gb114,0,none⟩) (Kd.R_far (p:=⟨gb113,1,none⟩) (Kd.R_far (p:=⟨gb113,0,none⟩) (Kd.R_types (Kd.R_types HO112.out BK113.out (by decide)) BK114.out (by decide)) (fun _ hk=>hk.1.2) (.slice Ao16 t101.length co16)) (fun _ hk=>hk.1.2) (.slice Ao19 t104.length co19)) (fun _ hk=>hk.2) (.slice Ao20 t107.length co20)) (fun _ hk=>hk.2) (.slice Ao22 t110.length co22)) (fun _ h_=>h_.1)) (fun _ h_=>h_.1)))));(case side4=>exact (Kd.R_reads' HO112.out).2.1);(case side5=>exact Kd.C_below HR1.out (bg HB.out GE113 GE114));(case side6=>exact HC1.out);rintro e w23 ⟨rfl,hb⟩;refine ⟨_,rfl,?_⟩;have n0_:=zk (Kd.R_below (rq ((Kd.R_mono (Kd.R_mono (Kd.R_far (p:=⟨gb114,1,none⟩) (Kd.R_far (p:=⟨gb114,0,none⟩) (Kd.R_far (p:=⟨gb113,1,none⟩) (Kd.R_far (p:=⟨gb113,0,none⟩) (Kd.R_types (Kd.R_types HO103.out BK113.out (by decide)) BK114.out (by decide)) (fun _ hk=>hk.1.2) (.slice Ao16 t101.length co16)) (fun _ hk=>hk.1.2) (.slice Ao19 t104.length co19)) (fun _ hk=>hk.2) (.slice Ao20 t107.length co20)) (fun _ hk=>hk.2) (.slice Ao22 t110.length co22)) (fun _ h_=>h_.1)) (fun _ h_=>h_.1)))) hb);have n1_:=zk (Kd.R_below (rq ((Kd.R_mono (Kd.R_mono (Kd.R_far (p:=⟨gb114,1,none⟩) (Kd.R_far (p:=⟨gb114,0,none⟩) (Kd.R_far (p:=⟨gb113,1,none⟩) (Kd.R_far (p:=⟨gb113,0,none⟩) (Kd.R_types (Kd.R_types HO106.out BK113.out (by decide)) BK114.out (by decide)) (fun _ hk=>hk.1.2) (.slice Ao16 t101.length co16)) (fun _ hk=>hk.1.2) (.slice Ao19 t104.length co19)) (fun _ hk=>hk.2) (.slice Ao20 t107.length co20)) (fun _ hk=>hk.2) (.slice Ao22 t110.length co22)) (fun _ h_=>h_.1)) (fun _ h_=>h_.1)))) hb);have n2_:=zk (Kd.R_below (rq ((Kd.R_mono (Kd.R_mono (Kd.R_far (p:=⟨gb114,1,none⟩) (Kd.R_far (p:=⟨gb114,0,none⟩) (Kd.R_far (p:=⟨gb113,1,none⟩) (Kd.R_far (p:=⟨gb113,0,none⟩) (Kd.R_types (Kd.R_types HO109.out BK113.out (by decide)) BK114.out (by decide)) (fun _ hk=>hk.1.2) (.slice Ao16 t101.length co16)) (fun _ hk=>hk.1.2) (.slice Ao19 t104.length co19)) (fun _ hk=>hk.2) (.slice Ao20 t107.length co20)) (fun _ hk=>hk.2) (.slice Ao22 t110.length co22)) (fun _ h_=>h_.1)) (fun _ h_=>h_.1)))) hb);have n3_:=zk (Kd.R_below (rq ((Kd.R_mono (Kd.R_mono (Kd.R_far (p:=⟨gb114,1,none⟩) (Kd.R_far (p:=⟨gb114,0,none⟩) (Kd.R_far (p:=⟨gb113,1,none⟩) (Kd.R_far (p:=⟨gb113,0,none⟩) (Kd.R_types (Kd.R_types HO112.out BK113.out (by decide)) BK114.out (by decide)) (fun _ hk=>hk.1.2) (.slice Ao16 t101.length co16)) (fun _ hk=>hk.1.2) (.slice Ao19 t104.length co19)) (fun _ hk=>hk.2) (.slice Ao20 t107.length co20)) (fun _ hk=>hk.2) (.slice Ao22 t110.length co22)) (fun _ h_=>h_.1)) (fun _ h_=>h_.1)))) hb);have n4_:=zk (blk_below (g:=gb113) (o:=.cells #[.slice Ao16 t101.length co16,.slice Ao19 t104.length co19] 24 (0,0)) (by (with_reducible repeat (first|refine blk_drewN ?_ _|refine blk_drew ?_|refine blk_alloc ?_ _));refine blk_far ?_ NB113_114.out _;(with_reducible repeat (first|refine blk_drewN ?_ _|refine blk_drew ?_|refine blk_alloc ?_ _));refine blk_far ?_ NB113_114.out _;(with_reducible repeat (first|refine blk_drewN ?_ _|refine blk_drew ?_|refine blk_alloc ?_ _));refine blk_put (cs:=#[.slice Ao16 t101.length co16,.slice none 0 0]) ?_ 1 _ rfl;(with_reducible repeat (first|refine blk_drewN ?_ _|refine blk_drew ?_|refine blk_alloc ?_ _));refine blk_put (cs:=#[.slice none 0 0,.slice none 0 0]) ?_ 0 _ rfl;(with_reducible repeat (first|refine blk_drewN ?_ _|refine blk_drew ?_|refine blk_alloc ?_ _));exact BK113.out) hb);have n5_:=zk (blk_below (g:=gb114) (o:=.cells #[.slice Ao20 t107.length co20,.slice Ao22 t110.length co22] 25 (0,0)) (by (with_reducible repeat (first|refine blk_drewN ?_ _|refine blk_drew ?_|refine blk_alloc ?_ _));refine blk_put (cs:=#[.slice Ao20 t107.length co20,.slice none 0 0]) ?_ 1 _ rfl;(with_reducible repeat (first|refine blk_drewN ?_ _|refine blk_drew ?_|refine blk_alloc ?_ _));refine blk_put (cs:=#[.slice none 0 0,.slice none 0 0]) ?_ 0 _ rfl;(with_reducible repeat (first|refine blk_drewN ?_ _|refine blk_drew ?_|refine blk_alloc ?_ _));refine blk_far ?_ NB114_113.out _;(with_reducible repeat (first|refine blk_drewN ?_ _|refine blk_drew ?_|refine blk_alloc ?_ _));refine blk_far ?_ NB114_113.out _;(with_reducible repeat (first|refine blk_drewN ?_ _|refine blk_drew ?_|refine blk_alloc ?_ _));exact BK114.out) hb);have n6_:=zk (below_step (bg HB.out GE113 GE114) hb);clear HO103;clear HO106;clear HO109;clear HO112;clear BK113;clear BK114;clear HB;have HO103:=n0_;have HO106:=n1_;have HO109:=n2_;have HO112:=n3_;have BK113:=n4_;have BK114:=n5_;have HB:=n6_;clear n0_ n1_ n2_ n3_ n4_ n5_ n6_;(try clear hb);(try clear hb2);(try clear hk);(try clear hi))|((with_reducible refine gate_callee (f:=19) rfl ?_);refine goesL_ (some 32) rfl rfl Try.func19 (by kernel_rfl) rfl #[.int .i64 a2,.int .i64 (t107.length:Int)] rfl oF ?_;(with_reducible refine (q20.calls a2 (t107.length:Int) t116 _ A8.out).mono ?_);rintro e w' ⟨rfl,⟨nd,rfl⟩⟩;refine ⟨_,rfl,?_⟩)|((with_reducible refine gate_callee (f:=19) rfl ?_);refine goesL_ (some 35) rfl rfl Try.func19 (by kernel_rfl) rfl #[.int .i64 a3,.int .i64 (t107.length:Int)] rfl oF ?_;(with_reducible refine (q20.calls a3 (t107.length:Int) t117 _ A9.out).mono ?_);rintro e w' ⟨rfl,⟨nd,rfl⟩⟩;refine ⟨_,rfl,?_⟩;have hcz24_0:w23.cell? ⟨gb114,0,none⟩ = some (.slice Ao20 t107.length co20):=(blk_cell BK114.out 0).trans rfl;have hcz24_1:w23.cell? ⟨gb114,1,none⟩ = some (.slice Ao22 t110.length co22):=(blk_cell BK114.out 1).trans rfl;have hfz24_0:=blk_frozen BK114.out 0;have hfz24_1:=blk_frozen BK114.out 1;have p118:0 ≤ (t116:Int):=oA;have q118:t116 < (t107.length:Int):=oA;obtain ⟨ad118,e118,hx118_0⟩:=Kd.at_int (Kd.R_reads' HO109.out).2.2 t116 p118 q118;cases e118;replace p118:=eq_true p118;replace q118:=eq_true q118))
   (try simp only [Act.put,List.setIfInBounds_toArray,List.set_cons_zero,List.set_cons_succ])
   go_cut [2] (fun v2 wc=>∃ (kq:Nat) (x2_11:Int),v2 = .int .i64 x2_11 ∧ Aside0 (q10.j0 kq x2_11 t117 l4 t115 t101 t104 t107 t110 = some r) ∧ Aside0 (kq ≤ k) ∧ Aside0 (Kd.R (Kd.int .i64) 3 wc w.heap.size (fun k_=>some k_ ≠ ((.slice Ao19 t104.length co19):Value).ownBlock ∧ some k_ ≠ ((.slice (some ad118) t107.length co20):Value).ownBlock ∧ some k_ ≠ ((.slice Ao22 t110.length co22):Value).ownBlock) (.slice Ao16 t101.length co16) t101) ∧ Aside0 (Kd.R (Kd.int .i64) 3 wc w.heap.size (fun k_=>some k_ ≠ ((.slice Ao16 t101.length co16):Value).ownBlock ∧ some k_ ≠ ((.slice (some ad118) t107.length co20):Value).ownBlock ∧ some k_ ≠ ((.slice Ao22 t110.length co22):Value).ownBlock) (.slice Ao19 t104.length co19) t104) ∧ Aside0 (Kd.R (Kd.int .i64) 3 wc w.heap.size (fun k_=>some k_ ≠ ((.slice Ao16 t101.length co16):Value).ownBlock ∧ some k_ ≠ ((.slice Ao19 t104.length co19):Value).ownBlock ∧ some k_ ≠ ((.slice Ao22 t110.length co22):Value).ownBlock) (.slice (some ad118) t107.length co20) t107) ∧ Aside0 (Kd.R (Kd.int .i64) 3 wc w.heap.size (fun k_=>some k_ ≠ ((.slice Ao16 t101.length co16):Value).ownBlock ∧ some k_ ≠ ((.slice Ao19 t104.length co19):Value).ownBlock ∧ some k_ ≠ ((.slice (some ad118) t107.length co20):Value).ownBlock) (.slice Ao22 t110.length co22) t110) ∧ Aside0 (wc.heap[gb113]? = some (.cells #[(.slice Ao16 t101.length co16),(.slice Ao19 t104.length co19)] 24 (0,0))) ∧ Aside0 (wc.heap[gb114]? = some (.cells #[(.slice (some ad118) t107.length co20),(.slice Ao22 t110.length co22)] 25 (0,0))) ∧ Aside0 (Below w.heap.size w wc))
   case first =>
    have H:=HC12.out
    clear HC12
    by_cases c25:(rd t107 t116) ≥ 3
    ·rw [if_pos c25] at H
     have c25b0:decide (3 ≤ (rd t107 t116)) = true:=decide_eq_true c25
     clear c25
     (first|rw [c25b0]|(simp only [i64_w,i32_w];rw [c25b0])|skip)
     have H':=Aside0.mk H
     clear H
     go_wp2
     go_meet
     case rel=>exact ⟨_,(0),oE,H',⟨by first|omega|exact Nat.le_refl _⟩,⟨rq HO103.out⟩,⟨rq HO106.out⟩,⟨rq HO109.out⟩,⟨rq HO112.out⟩,⟨hq BK113.out⟩,⟨hq BK114.out⟩,⟨bg HB.out GE113 GE114⟩⟩
    ·rw [if_neg c25] at H
     have c25b0:decide (3 ≤ (rd t107 t116)) = false:=decide_eq_false c25
     clear c25
     (first|rw [c25b0]|(simp only [i64_w,i32_w];rw [c25b0])|skip)
     have H':=Aside0.mk H
     clear H
     go_wp2
     go_meet
     case rel=>exact ⟨_,(t116),oE,H',⟨by first|omega|exact Nat.le_refl _⟩,⟨rq HO103.out⟩,⟨rq HO106.out⟩,⟨rq HO109.out⟩,⟨rq HO112.out⟩,⟨hq BK113.out⟩,⟨hq BK114.out⟩,⟨bg HB.out GE113 GE114⟩⟩
   case rest =>
    clear HC12
    try clear c1
    try clear p1
    try clear q1
    try clear hx1
    try clear c2
    try clear p2
    try clear c4
    try clear c10
    try clear c10b0
    try clear c11
    try clear c11b0
    try clear p11
    try clear q11
    try clear hx11
    try clear c13
    try clear c17
    try clear c18
    try clear c19
    try clear c25
    try clear c25b0
    try clear hcz18_0
    try clear hcz18_1
    try clear hcz21_0
    try clear hcz21_1
    try clear hcz24_0
    try clear hcz24_1
    try clear hfz18_0
    try clear hfz18_1
    try clear hfz21_0
    try clear hfz21_1
    try clear hfz24_0
    try clear hfz24_1
    try clear hx118_0
    try clear p118
    try clear q118
    obtain ⟨kq,x2_11,rfl,HA,HJ11,HO_114000,HO_114001,HO_115000,HO_115001,BK113,BK114,HB⟩:=hcut
    cases kq with
    | zero=>exact absurd HA.out (by simp [q10.j0])
    | succ kj11 =>
     have H:=HA.out
     clear HA
     simp only [q10.j0] at H
     replace H:=Option.bind_eq_some_iff.mp H
     obtain ⟨t119,A260,H⟩:=H
     replace H:((q21.f kj11 t107 t110 l4).bind fun t120=>((q5.f kj11 t107 t110 t115 t119).bind fun t123=>((q8.f t120).bind fun t126=>((q34.f kj11 t101 t104 t115 t119).bind fun t129=>((q14.f kj11 t129 t123).bind fun t132=>(if t132 = true then ((q32.f t101 t104 t119 t117 t126).bind fun t133=>((q4.f kj11 t107 t110 t119 t117 t120).bind fun t136=>((q14.f kj11 t133 t136).bind fun t139=>(if t139 = true then ((q35.f t101 t104).bind fun t140=>((q6.f kj11 t107 t110).bind fun t143=>((q14.f kj11 t140 t143).bind fun t146=>(if t146 = true then ((q26.f kj11 t101 t104 t115 t123 t126).bind fun t147=>((q0.f kj11 t107 t110 t115 t123 t120).bind fun t150=>((q11.f kj11 t147 t150).bind fun t153=>(if t153 = true then ((q11.f kj11 t126 t120).bind fun t154=>(if t154 = true then ((q18.f kj11).bind fun t155=>(some t155)) else (some false))) else (some false))))) else (some false))))) else (some false))))) else (some false))))))) = some r:=H
     have A26:=Aside0.mk A260
     clear A260
     replace H:=Option.bind_eq_some_iff.mp H
     obtain ⟨t120,A270,H⟩:=H
     replace H:((q5.f kj11 t107 t110 t115 t119).bind fun t123=>((q8.f t120).bind fun t126=>((q34.f kj11 t101 t104 t115 t119).bind fun t129=>((q14.f kj11 t129 t123).bind fun t132=>(if t132 = true then ((q32.f t101 t104 t119 t117 t126).bind fun t133=>((q4.f kj11 t107 t110 t119 t117 t120).bind fun t136=>((q14.f kj11 t133 t136).bind fun t139=>(if t139 = true then ((q35.f t101 t104).bind fun t140=>((q6.f kj11 t107 t110).bind fun t143=>((q14.f kj11 t140 t143).bind fun t146=>(if t146 = true then ((q26.f kj11 t101 t104 t115 t123 t126).bind fun t147=>((q0.f kj11 t107 t110 t115 t123 t120).bind fun t150=>((q11.f kj11 t147 t150).bind fun t153=>(if t153 = true then ((q11.f kj11 t126 t120).bind fun t154=>(if t154 = true then ((q18.f kj11).bind fun t155=>(some t155)) else (some false))) else (some false))))) else (some false))))) else (some false))))) else (some false)))))) = some r:=H
     have A27:=Aside0.mk A270
     clear A270
     replace H:=Option.bind_eq_some_iff.mp H
     obtain ⟨t123,A280,H⟩:=H
     replace H:((q8.f t120).bind fun t126=>((q34.f kj11 t101 t104 t115 t119).bind fun t129=>((q14.f kj11 t129 t123).bind fun t132=>(if t132 = true then ((q32.f t101 t104 t119 t117 t126).bind fun t133=>((q4.f kj11 t107 t110 t119 t117 t120).bind fun t136=>((q14.f kj11 t133 t136).bind fun t139=>(if t139 = true then ((q35.f t101 t104).bind fun t140=>((q6.f kj11 t107 t110).bind fun t143=>((q14.f kj11 t140 t143).bind fun t146=>(if t146 = true then ((q26.f kj11 t101 t104 t115 t123 t126).bind fun t147=>((q0.f kj11 t107 t110 t115 t123 t120).bind fun t150=>((q11.f kj11 t147 t150).bind fun t153=>(if t153 = true then ((q11.f kj11 t126 t120).bind fun t154=>(if t154 = true then ((q18.f kj11).bind fun t155=>(some t155)) else (some false))) else (some false))))) else (some false))))) else (some false))))) else (some false))))) = some r:=H
     have A28:=Aside0.mk A280
     clear A280
     replace H:=Option.bind_eq_some_iff.mp H
     obtain ⟨t126,A290,H⟩:=H
     replace H:((q34.f kj11 t101 t104 t115 t119).bind fun t129=>((q14.f kj11 t129 t123).bind fun t132=>(if t132 = true then ((q32.f t101 t104 t119 t117 t126).bind fun t133=>((q4.f kj11 t107 t110 t119 t117 t120).bind fun t136=>((q14.f kj11 t133 t136).bind fun t139=>(if t139 = true then ((q35.f t101 t104).bind fun t140=>((q6.f kj11 t107 t110).bind fun t143=>((q14.f kj11 t140 t143).bind fun t146=>(if t146 = true then ((q26.f kj11 t101 t104 t115 t123 t126).bind fun t147=>((q0.f kj11 t107 t110 t115 t123 t120).bind fun t150=>((q11.f kj11 t147 t150).bind fun t153=>(if t153 = true then ((q11.f kj11 t126 t120).bind fun t154=>(if t154 = true then ((q18.f kj11).bind fun t155=>(some t155)) else (some false))) else (some false))))) else (some false))))) else (some false))))) else (some false)))) = some r:=H
     have A29:=Aside0.mk A290
     clear A290
     replace H:=Option.bind_eq_some_iff.mp H
     obtain ⟨t129,A300,H⟩:=H
     replace H:((q14.f kj11 t129 t123).bind fun t132=>(if t132 = true then ((q32.f t101 t104 t119 t117 t126).bind fun t133=>((q4.f kj11 t107 t110 t119 t117 t120).bind fun t136=>((q14.f kj11 t133 t136).bind fun t139=>(if t139 = true then ((q35.f t101 t104).bind fun t140=>((q6.f kj11 t107 t110).bind fun t143=>((q14.f kj11 t140 t143).bind fun t146=>(if t146 = true then ((q26.f kj11 t101 t104 t115 t123 t126).bind fun t147=>((q0.f kj11 t107 t110 t115 t123 t120).bind fun t150=>((q11.f kj11 t147 t150).bind fun t153=>(if t153 = true then ((q11.f kj11 t126 t120).bind fun t154=>(if t154 = true then ((q18.f kj11).bind fun t155=>(some t155)) else (some false))) else (some false))))) else (some false))))) else (some false))))) else (some false))) = some r:=H
     have A30:=Aside0.mk A300
     clear A300
     replace H:=Option.bind_eq_some_iff.mp H
     obtain ⟨t132,A310,H⟩:=H
     replace H:(if t132 = true then ((q32.f t101 t104 t119 t117 t126).bind fun t133=>((q4.f kj11 t107 t110 t119 t117 t120).bind fun t136=>((q14.f kj11 t133 t136).bind fun t139=>(if t139 = true then ((q35.f t101 t104).bind fun t140=>((q6.f kj11 t107 t110).bind fun t143=>((q14.f kj11 t140 t143).bind fun t146=>(if t146 = true then ((q26.f kj11 t101 t104 t115 t123 t126).bind fun t147=>((q0.f kj11 t107 t110 t115 t123 t120).bind fun t150=>((q11.f kj11 t147 t150).bind fun t153=>(if t153 = true then ((q11.f kj11 t126 t120).bind fun t154=>(if t154 = true then ((q18.f kj11).bind fun t155=>(some t155)) else (some false))) else (some false))))) else (some false))))) else (some false))))) else (some false)) = some r:=H
     have A31:=Aside0.mk A310
     clear A310
     by_cases c32:t132 = true
     ·subst c32
      have H1:((q32.f t101 t104 t119 t117 t126).bind fun t133=>((q4.f kj11 t107 t110 t119 t117 t120).bind fun t136=>((q14.f kj11 t133 t136).bind fun t139=>(if t139 = true then ((q35.f t101 t104).bind fun t140=>((q6.f kj11 t107 t110).bind fun t143=>((q14.f kj11 t140 t143).bind fun t146=>(if t146 = true then ((q26.f kj11 t101 t104 t115 t123 t126).bind fun t147=>((q0.f kj11 t107 t110 t115 t123 t120).bind fun t150=>((q11.f kj11 t147 t150).bind fun t153=>(if t153 = true then ((q11.f kj11 t126 t120).bind fun t154=>(if t154 = true then ((q18.f kj11).bind fun t155=>(some t155)) else (some false))) else (some false))))) else (some false))))) else (some false))))) = some r:=by rw [if_pos rfl] at H;exact H
      clear H
      have H:=H1
      clear H1
      replace H:=Option.bind_eq_some_iff.mp H
      obtain ⟨t133,A330,H⟩:=H
      replace H:((q4.f kj11 t107 t110 t119 t117 t120).bind fun t136=>((q14.f kj11 t133 t136).bind fun t139=>(if t139 = true then ((q35.f t101 t104).bind fun t140=>((q6.f kj11 t107 t110).bind fun t143=>((q14.f kj11 t140 t143).bind fun t146=>(if t146 = true then ((q26.f kj11 t101 t104 t115 t123 t126).bind fun t147=>((q0.f kj11 t107 t110 t115 t123 t120).bind fun t150=>((q11.f kj11 t147 t150).bind fun t153=>(if t153 = true then ((q11.f kj11 t126 t120).bind fun t154=>(if t154 = true then ((q18.f kj11).bind fun t155=>(some t155)) else (some false))) else (some false))))) else (some false))))) else (some false)))) = some r:=H
      have A33:=Aside0.mk A330
      clear A330
      replace H:=Option.bind_eq_some_iff.mp H
      obtain ⟨t136,A340,H⟩:=H
      replace H:((q14.f kj11 t133 t136).bind fun t139=>(if t139 = true then ((q35.f t101 t104).bind fun t140=>((q6.f kj11 t107 t110).bind fun t143=>((q14.f kj11 t140 t143).bind fun t146=>(if t146 = true then ((q26.f kj11 t101 t104 t115 t123 t126).bind fun t147=>((q0.f kj11 t107 t110 t115 t123 t120).bind fun t150=>((q11.f kj11 t147 t150).bind fun t153=>(if t153 = true then ((q11.f kj11 t126 t120).bind fun t154=>(if t154 = true then ((q18.f kj11).bind fun t155=>(some t155)) else (some false))) else (some false))))) else (some false))))) else (some false))) = some r:=H
      have A34:=Aside0.mk A340
      clear A340
      replace H:=Option.bind_eq_some_iff.mp H
      obtain ⟨t139,A350,H⟩:=H
      replace H:(if t139 = true then ((q35.f t101 t104).bind fun t140=>((q6.f kj11 t107 t110).bind fun t143=>((q14.f kj11 t140 t143).bind fun t146=>(if t146 = true then ((q26.f kj11 t101 t104 t115 t123 t126).bind fun t147=>((q0.f kj11 t107 t110 t115 t123 t120).bind fun t150=>((q11.f kj11 t147 t150).bind fun t153=>(if t153 = true then ((q11.f kj11 t126 t120).bind fun t154=>(if t154 = true then ((q18.f kj11).bind fun t155=>(some t155)) else (some false))) else (some false))))) else (some false))))) else (some false)) = some r:=H
      have A35:=Aside0.mk A350
      clear A350
      by_cases c36:t139 = true
      ·subst c36
       have H1:((q35.f t101 t104).bind fun t140=>((q6.f kj11 t107 t110).bind fun t143=>((q14.f kj11 t140 t143).bind fun t146=>(if t146 = true then ((q26.f kj11 t101 t104 t115 t123 t126).bind fun t147=>((q0.f kj11 t107 t110 t115 t123 t120).bind fun t150=>((q11.f kj11 t147 t150).bind fun t153=>(if t153 = true then ((q11.f kj11 t126 t120).bind fun t154=>(if t154 = true then ((q18.f kj11).bind fun t155=>(some t155)) else (some false))) else (some false))))) else (some false))))) = some r:=by rw [if_pos rfl] at H;exact H
       clear H
       have H:=H1
       clear H1
       replace H:=Option.bind_eq_some_iff.mp H
       obtain ⟨t140,A370,H⟩:=H
       replace H:((q6.f kj11 t107 t110).bind fun t143=>((q14.f kj11 t140 t143).bind fun t146=>(if t146 = true then ((q26.f kj11 t101 t104 t115 t123 t126).bind fun t147=>((q0.f kj11 t107 t110 t115 t123 t120).bind fun t150=>((q11.f kj11 t147 t150).bind fun t153=>(if t153 = true then ((q11.f kj11 t126 t120).bind fun t154=>(if t154 = true then ((q18.f kj11).bind fun t155=>(some t155)) else (some false))) else (some false))))) else (some false)))) = some r:=H
       have A37:=Aside0.mk A370
       clear A370
       replace H:=Option.bind_eq_some_iff.mp H
       obtain ⟨t143,A380,H⟩:=H
       replace H:((q14.f kj11 t140 t143).bind fun t146=>(if t146 = true then ((q26.f kj11 t101 t104 t115 t123 t126).bind fun t147=>((q0.f kj11 t107 t110 t115 t123 t120).bind fun t150=>((q11.f kj11 t147 t150).bind fun t153=>(if t153 = true then ((q11.f kj11 t126 t120).bind fun t154=>(if t154 = true then ((q18.f kj11).bind fun t155=>(some t155)) else (some false))) else (some false))))) else (some false))) = some r:=H
       have A38:=Aside0.mk A380
       clear A380
       replace H:=Option.bind_eq_some_iff.mp H
       obtain ⟨t146,A390,H⟩:=H
       replace H:(if t146 = true then ((q26.f kj11 t101 t104 t115 t123 t126).bind fun t147=>((q0.f kj11 t107 t110 t115 t123 t120).bind fun t150=>((q11.f kj11 t147 t150).bind fun t153=>(if t153 = true then ((q11.f kj11 t126 t120).bind fun t154=>(if t154 = true then ((q18.f kj11).bind fun t155=>(some t155)) else (some false))) else (some false))))) else (some false)) = some r:=H
       have A39:=Aside0.mk A390
       clear A390
       by_cases c40:t146 = true
       ·subst c40
        have H1:((q26.f kj11 t101 t104 t115 t123 t126).bind fun t147=>((q0.f kj11 t107 t110 t115 t123 t120).bind fun t150=>((q11.f kj11 t147 t150).bind fun t153=>(if t153 = true then ((q11.f kj11 t126 t120).bind fun t154=>(if t154 = true then ((q18.f kj11).bind fun t155=>(some t155)) else (some false))) else (some false))))) = some r:=by rw [if_pos rfl] at H;exact H
        clear H
        have H:=H1
        clear H1
        replace H:=Option.bind_eq_some_iff.mp H
        obtain ⟨t147,A410,H⟩:=H
        replace H:((q0.f kj11 t107 t110 t115 t123 t120).bind fun t150=>((q11.f kj11 t147 t150).bind fun t153=>(if t153 = true then ((q11.f kj11 t126 t120).bind fun t154=>(if t154 = true then ((q18.f kj11).bind fun t155=>(some t155)) else (some false))) else (some false)))) = some r:=H
        have A41:=Aside0.mk A410
        clear A410
        replace H:=Option.bind_eq_some_iff.mp H
        obtain ⟨t150,A420,H⟩:=H
        replace H:((q11.f kj11 t147 t150).bind fun t153=>(if t153 = true then ((q11.f kj11 t126 t120).bind fun t154=>(if t154 = true then ((q18.f kj11).bind fun t155=>(some t155)) else (some false))) else (some false))) = some r:=H
        have A42:=Aside0.mk A420
        clear A420
        replace H:=Option.bind_eq_some_iff.mp H
        obtain ⟨t153,A430,H⟩:=H
        replace H:(if t153 = true then ((q11.f kj11 t126 t120).bind fun t154=>(if t154 = true then ((q18.f kj11).bind fun t155=>(some t155)) else (some false))) else (some false)) = some r:=H
        have A43:=Aside0.mk A430
        clear A430
        by_cases c44:t153 = true
        ·subst c44
         have H1:((q11.f kj11 t126 t120).bind fun t154=>(if t154 = true then ((q18.f kj11).bind fun t155=>(some t155)) else (some false))) = some r:=by rw [if_pos rfl] at H;exact H
         clear H
         have H:=H1
         clear H1
         replace H:=Option.bind_eq_some_iff.mp H
         obtain ⟨t154,A450,H⟩:=H
         replace H:(if t154 = true then ((q18.f kj11).bind fun t155=>(some t155)) else (some false)) = some r:=H
         have A45:=Aside0.mk A450
         clear A450
         by_cases c46:t154 = true
         ·subst c46
          have H1:((q18.f kj11).bind fun t155=>(some t155)) = some r:=by rw [if_pos rfl] at H;exact H
          clear H
          have H:=H1
          clear H1
          replace H:=Option.bind_eq_some_iff.mp H
          obtain ⟨t155,A470,H⟩:=H
          replace H:(some t155) = some r:=H
          have A47:=Aside0.mk A470
          clear A470
          obtain rfl:=Option.some.inj H
          have hnb48:=NB114_113.out
          have hnc48:=NB113_114.out
          have hcz49_0:wc.cell? ⟨gb114,0,none⟩ = some (.slice (some ad118) t107.length co20):=(blk_cell BK114.out 0).trans rfl
          have hcz49_1:wc.cell? ⟨gb114,1,none⟩ = some (.slice Ao22 t110.length co22):=(blk_cell BK114.out 1).trans rfl
          have hfz49_0:=blk_frozen BK114.out 0
          have hfz49_1:=blk_frozen BK114.out 1
          try go_wp2_with (first|((with_reducible refine gate_callee (f:=34) rfl ?_);refine goesL_ (some 45) rfl rfl Try.func34 (by kernel_rfl) rfl #[.agg #[.slice (some ad118) t107.length co20,.slice Ao22 t110.length co22],.int .i64 x2_11,.int .i64 t117] rfl oF ?_;(with_reducible refine (q2.calls kj11 _ _ t107 _ _ t110 x2_11 t117 t119 _ ?side1 ?side2 ?side3 ?side4 A26.out).mono ?_);(case side1=>exact cq ((Kd.R_reads' HO_115000.out).2.2));(case side2=>exact (Kd.R_reads' HO_115000.out).2.1);(case side3=>exact cq ((Kd.R_reads' HO_115001.out).2.2));(case side4=>exact (Kd.R_reads' HO_115001.out).2.1);rintro e w50 ⟨rfl,hb⟩;refine ⟨_,rfl,?_⟩;have n0_:=zk (Kd.R_below (rq HO_114000.out) hb);have n1_:=zk (Kd.R_below (rq HO_114001.out) hb);have n2_:=zk (Kd.R_below (rq HO_115000.out) hb);have n3_:=zk (Kd.R_below (rq HO_115001.out) hb);have n4_:=zk (blk_below (g:=gb113) (o:=.cells #[.slice Ao16 t101.length co16,.slice Ao19 t104.length co19] 24 (0,0)) (hq BK113.out) hb);have n5_:=zk (blk_below (g:=gb114) (o:=.cells #[.slice (some ad118) t107.length co20,.slice Ao22 t110.length co22] 25 (0,0)) (hq BK114.out) hb);have n6_:=zk (below_step (bg HB.out GE113 GE114) hb);clear HO_114000;clear HO_114001;clear HO_115000;clear HO_115001;clear BK113;clear BK114;clear HB;have HO_114000:=n0_;have HO_114001:=n1_;have HO_115000:=n2_;have HO_115001:=n3_;have BK113:=n4_;have BK114:=n5_;have HB:=n6_;clear n0_ n1_ n2_ n3_ n4_ n5_ n6_;(try clear hb);(try clear hb2);(try clear hk);(try clear hi);have hcz51_0:w50.cell? ⟨gb114,0,none⟩ = some (.slice (some ad118) t107.length co20):=(blk_cell BK114.out 0).trans rfl;have hcz51_1:w50.cell? ⟨gb114,1,none⟩ = some (.slice Ao22 t110.length co22):=(blk_cell BK114.out 1).trans rfl;have hfz51_0:=blk_frozen BK114.out 0;have hfz51_1:=blk_frozen BK114.out 1)|((with_reducible refine gate_callee (f:=22) rfl ?_);refine goesL_ (some 48) rfl rfl Try.func22 (by kernel_rfl) rfl #[.agg #[.slice (some ad118) t107.length co20,.slice Ao22 t110.length co22],.slice A4 l4.length c4] rfl oF ?_;(with_reducible refine (q21.calls kj11 _ _ t107 _ _ t110 _ _ l4 t120 _ ?side1 ?side2 ?side3 ?side4 ?side5 ?side6 A27.out).mono ?_);(case side1=>exact cq ((Kd.R_reads' HO_115000.out).2.2));(case side2=>exact (Kd.R_reads' HO_115000.out).2.1);(case side3=>exact cq ((Kd.R_reads' HO_115001.out).2.2));(case side4=>exact (Kd.R_reads' HO_115001.out).2.1);(case side5=>exact cq (Kd.C_below HR4.out HB.out));(case side6=>exact HC4.out);rintro e w52 ⟨v121,rfl,ho0,hb⟩;refine ⟨_,rfl,?_⟩;have n0_:=zk (Kd.R_below (rq HO_114000.out) hb);have n1_:=zk (Kd.R_below (rq HO_114001.out) hb);have n2_:=zk (Kd.R_below (rq HO_115000.out) hb);have n3_:=zk (Kd.R_below (rq HO_115001.out) hb);have n4_:=zk (Kd.R_lower ho0 (below_size (bg HB.out GE113 GE114)));have n5_:=zk (blk_below (g:=gb113) (o:=.cells #[.slice Ao16 t101.length co16,.slice Ao19 t104.length co19] 24 (0,0)) (hq BK113.out) hb);have n6_:=zk (blk_below (g:=gb114) (o:=.cells #[.slice (some ad118) t107.length co20,.slice Ao22 t110.length co22] 25 (0,0)) (hq BK114.out) hb);have n7_:=zk (below_step (bg HB.out GE113 GE114) hb);clear HO_114000;clear HO_114001;clear HO_115000;clear HO_115001;clear BK113;clear BK114;clear HB;have HO_114000:=n0_;have HO_114001:=n1_;have HO_115000:=n2_;have HO_115001:=n3_;have HO122:=n4_;have BK113:=n5_;have BK114:=n6_;have HB:=n7_;clear n0_ n1_ n2_ n3_ n4_ n5_ n6_ n7_;(try clear hb);(try clear hb2);(try clear hk);(try clear hi);(try clear ho0);have hcz53_0:w52.cell? ⟨gb114,0,none⟩ = some (.slice (some ad118) t107.length co20):=(blk_cell BK114.out 0).trans rfl;have hcz53_1:w52.cell? ⟨gb114,1,none⟩ = some (.slice Ao22 t110.length co22):=(blk_cell BK114.out 1).trans rfl;have hfz53_0:=blk_frozen BK114.out 0;have hfz53_1:=blk_frozen BK114.out 1)|((with_reducible refine gate_callee (f:=35) rfl ?_);refine goesL_ (some 52) rfl rfl Try.func35 (by kernel_rfl) rfl #[.agg #[.slice (some ad118) t107.length co20,.slice Ao22 t110.length co22],.int .u32 t115,.int .i64 t119] rfl oF ?_;(with_reducible refine (q5.calls kj11 _ _ t107 _ _ t110 t115 t119 t123 _ ?side1 ?side2 ?side3 ?side4 A28.out).mono ?_);(case side1=>exact cq ((Kd.R_reads' HO_115000.out).2.2));(case side2=>exact (Kd.R_reads' HO_115000.out).2.1);(case side3=>exact cq ((Kd.R_reads' HO_115001.out).2.2));(case side4=>exact (Kd.R_reads' HO_115001.out).2.1);rintro e w54 ⟨v124,rfl,ho0,hb⟩;refine ⟨_,rfl,?_⟩;have n0_:=zk (Kd.R_elder' (rq HO_114000.out) (Kd.R_base ho0) hb);have n1_:=zk (Kd.R_elder' (rq HO_114001.out) (Kd.R_base ho0) hb);have n2_:=zk (Kd.R_elder' (rq HO_115000.out) (Kd.R_base ho0) hb);have n3_:=zk (Kd.R_elder' (rq HO_115001.out) (Kd.R_base ho0) hb);have n4_:=zk (Kd.R_below (rq HO122.out) hb);have n5_:=zk (Kd.R_lower (Kd.R_new' (Kd.R_new' (Kd.R_new' (Kd.R_new' ho0 (Kd.R_lt (rq HO_114000.out))) (Kd.R_lt (rq HO_114001.out))) (Kd.R_lt (rq HO_115000.out))) (Kd.R_lt (rq HO_115001.out))) (below_size (bg HB.out GE113 GE114)));have n6_:=zk (blk_below (g:=gb113) (o:=.cells #[.slice Ao16 t101.length co16,.slice Ao19 t104.length co19] 24 (0,0)) (hq BK113.out) hb);have n7_:=zk (blk_below (g:=gb114) (o:=.cells #[.slice (some ad118) t107.length co20,.slice Ao22 t110.length co22] 25 (0,0)) (hq BK114.out) hb);have n8_:=zk (below_step (bg HB.out GE113 GE114) hb);clear HO_114000;clear HO_114001;clear HO_115000;clear HO_115001;clear HO122;clear BK113;clear BK114;clear HB;have HO_114000:=n0_;have HO_114001:=n1_;have HO_115000:=n2_;have HO_115001:=n3_;have HO122:=n4_;have HO125:=n5_;have BK113:=n6_;have BK114:=n7_;have HB:=n8_;clear n0_ n1_ n2_ n3_ n4_ n5_ n6_ n7_ n8_;(try clear hb);(try clear hb2);(try clear hk);(try clear hi);(try clear ho0);obtain ⟨Ao55,co55,eo55⟩:=Kd.R_slice HO122.out;subst eo55)|((with_reducible refine gate_callee (f:=36) rfl ?_);refine goesL_ (some 54) rfl rfl Try.func36 (by kernel_rfl) rfl #[.slice Ao55 t120.length co55] rfl oF ?_;(with_reducible refine (q8.calls _ _ t120 t126 _ ?side1 ?side2 A29.out).mono ?_);(case side1=>exact cq ((Kd.R_reads' HO122.out).2.2));(case side2=>exact (Kd.R_reads' HO122.out).2.1);rintro e w56 ⟨v127,rfl,ho0,hb⟩;refine ⟨_,rfl,?_⟩;have n0_:=zk (Kd.R_below (rq HO_114000.out) hb);have n1_:=zk (Kd.R_below (rq HO_114001.out) hb);have n2_:=zk (Kd.R_below (rq HO_115000.out) hb);have n3_:=zk (Kd.R_below (rq HO_115001.out) hb);have n4_:=zk (Kd.R_elder' (rq HO122.out) (Kd.R_base ho0) hb);have n5_:=zk (Kd.R_below (rq HO125.out) hb);have n6_:=zk (Kd.R_lower (Kd.R_new' ho0 (Kd.R_lt (rq HO122.out))) (below_size (bg HB.out GE113 GE114)));have n7_:=zk (blk_below (g:=gb113) (o:=.cells #[.slice Ao16 t101.length co16,.slice Ao19 t104.length co19] 24 (0,0)) (hq BK113.out) hb);have n8_:=zk (blk_below (g:=gb114) (o:=.cells #[.slice (some ad118) t107.length co20,.slice Ao22 t110.length co22] 25 (0,0)) (hq BK114.out) hb);have n9_:=zk (below_step (bg HB.out GE113 GE114) hb);clear HO_114000;clear HO_114001;clear HO_115000;clear HO_115001;clear HO122;clear HO125;clear BK113;clear BK114;clear HB;have HO_114000:=n0_;have HO_114001:=n1_;have HO_115000:=n2_;have HO_115001:=n3_;have HO122:=n4_;have HO125:=n5_;have HO128:=n6_;have BK113:=n7_;have BK114:=n8_;have HB:=n9_;clear n0_ n1_ n2_ n3_ n4_ n5_ n6_ n7_ n8_ n9_;(try clear hb);(try clear hb2);(try clear hk);(try clear hi);(try clear ho0)))
          have n0_:=zk (Kd.R_drew HO_114000.out)
          have n1_:=zk (Kd.R_drew HO_114001.out)
          have n2_:=zk (Kd.R_drew HO_115000.out)
          have n3_:=zk (Kd.R_drew HO_115001.out)
          have n4_:=zk (Kd.R_drew HO122.out)
          have n5_:=zk (Kd.R_drew HO125.out)
          have n6_:=zk (Kd.R_drew HO128.out)
          have n7_:=zk (blk_drew BK113.out)
          have n8_:=zk (blk_drew BK114.out)
          have n9_:=zk (below_drew1 HB.out)
          clear HO_114000
          clear HO_114001
          clear HO_115000
          clear HO_115001
          clear HO122
          clear HO125
          clear HO128
          clear BK113
          clear BK114
          clear HB
          have HO_114000:=n0_
          have HO_114001:=n1_
          have HO_115000:=n2_
          have HO_115001:=n3_
          have HO122:=n4_
          have HO125:=n5_
          have HO128:=n6_
          have BK113:=n7_
          have BK114:=n8_
          have HB:=n9_
          clear n0_ n1_ n2_ n3_ n4_ n5_ n6_ n7_ n8_ n9_
          refine start_ (n:=48) (S:=fun w'=>w'.cell? ⟨gb113,0,none⟩ = some (.slice Ao16 t101.length co16) ∧ w'.cell? ⟨gb113,1,none⟩ = some (.slice Ao19 t104.length co19) ∧ w'.cell? ⟨gb114,0,none⟩ = some (.slice (some ad118) t107.length co20) ∧ w'.cell? ⟨gb114,1,none⟩ = some (.slice Ao22 t110.length co22)) (ds:=[]) #[false,false,false,false,false,false,false,false,false,false,false,false,false,false,false,false,false,false,false,false,false,false,false,false,false,false,false,false,false,false,false,false,false,false,false,false,false,false,false,false,false,false,false,false,false,false,false,false] (by kernel_rfl) rfl rfl ⟨(blk_cell BK113.out 0).trans rfl,(blk_cell BK113.out 1).trans rfl,(blk_cell BK114.out 0).trans rfl,(blk_cell BK114.out 1).trans rfl⟩ (fun hHeld=>?_);refine with_tabW imprimaturlaw07_EnterTells.tab11 imprimaturlaw07_EnterTells.bits11 (fun HT_ HW_=>?_)
          generalize w56.drew = w57 at HO_114000 HO_114001 HO_115000 HO_115001 HO122 HO125 HO128 BK113 BK114 HB hHeld ⊢
          refine pure_ (i:=1) (N:=some 56) (v:=?_) (a':=?_) #[false,true,false,false,false,false,false,false,false,false,false,false,false,false,false,false,false,false,false,false,false,false,false,false,false,false,false,false,false,false,false,false,false,false,false,false,false,false,false,false,false,false,false,false,false,false,false,false] rfl rfl (any_of HT_.out (by kernel_rfl)) (fun _ _ _ h=>h) (Or.inl ⟨by rfl,?_⟩) ?_ ?_
          rotate_left
          ·intro w'
           go_simp
           with_reducible rfl
          rotate_left
          ·simp only [Act.put,List.setIfInBounds_toArray,List.set_cons_zero,List.set_cons_succ,i64_w,i32_w]
           rfl
          refine pure_ (i:=2) (N:=some 57) (v:=?_) (a':=?_) #[false,true,true,false,false,false,false,false,false,false,false,false,false,false,false,false,false,false,false,false,false,false,false,false,false,false,false,false,false,false,false,false,false,false,false,false,false,false,false,false,false,false,false,false,false,false,false,false] rfl rfl (any_of HT_.out (by kernel_rfl)) (fun _ _ _ h=>h) (Or.inl ⟨by rfl,?_⟩) ?_ ?_
          rotate_left
          ·intro w'
           go_simp
           with_reducible rfl
          rotate_left
          ·simp only [Act.put,List.setIfInBounds_toArray,List.set_cons_zero,List.set_cons_succ,i64_w,i32_w]
           rfl
          refine pure_ (i:=4) (N:=some 59) (v:=?_) (a':=?_) #[false,true,true,false,true,false,false,false,false,false,false,false,false,false,false,false,false,false,false,false,false,false,false,false,false,false,false,false,false,false,false,false,false,false,false,false,false,false,false,false,false,false,false,false,false,false,false,false] rfl rfl (any_of HT_.out (by kernel_rfl)) (fun _ _ _ h=>h) (Or.inl ⟨by rfl,?_⟩) ?_ ?_
          rotate_left
          ·intro w'
           go_simp
           with_reducible rfl
          rotate_left
          ·simp only [Act.put,List.setIfInBounds_toArray,List.set_cons_zero,List.set_cons_succ,i64_w,i32_w]
           rfl
          refine take_ (i:=0) (N:=some 55) (v:=?_) (a':=?_) #[true,true,true,false,true,false,false,false,false,false,false,false,false,false,false,false,false,false,false,false,false,false,false,false,false,false,false,false,false,false,false,false,false,false,false,false,false,false,false,false,false,false,false,false,false,false,false,false] rfl rfl (take_ofW HT_.out HW_.out (by kernel_rfl)) (fun _ _ _ h=>h) (Or.inl ⟨by rfl,?_⟩) hHeld ?_ ?_
          rotate_left
          ·rintro w' ⟨s0,s1,s2,s3⟩
           go_simp
           with_reducible rfl
          rotate_left
          ·simp only [Act.put,List.setIfInBounds_toArray,List.set_cons_zero,List.set_cons_succ,i64_w,i32_w]
           rfl
          refine one_ (i:=3) (N:=some 58) #[true,true,true,true,true,false,false,false,false,false,false,false,false,false,false,false,false,false,false,false,false,false,false,false,false,false,false,false,false,false,false,false,false,false,false,false,false,false,false,false,false,false,false,false,false,false,false,false] rfl rfl (one_of HT_.out (by kernel_rfl)) (by decide) (fun K hK=>?_)
          refine goes_ Try.func23 (by kernel_rfl) rfl #[.agg #[.slice Ao16 t101.length co16,.slice Ao19 t104.length co19],.int .u32 t115,.int .i64 t119] (by rfl) rfl rfl oF ?_
          with_reducible refine (q34.calls kj11 _ _ t101 _ _ t104 t115 t119 t129 _ ?side1 ?side2 ?side3 ?side4 A30.out).mono ?_
          (case side1=>exact cq ((Kd.R_reads' HO_114000.out).2.2))
          (case side2=>exact (Kd.R_reads' HO_114000.out).2.1)
          (case side3=>exact cq ((Kd.R_reads' HO_114001.out).2.2))
          (case side4=>exact (Kd.R_reads' HO_114001.out).2.1)
          rintro e w58 ⟨v130,rfl,ho0,hb⟩
          refine ⟨_,rfl,?_⟩
          have n0_:=zk (Kd.R_elder' (rq HO_114000.out) (Kd.R_base ho0) hb)
          have n1_:=zk (Kd.R_elder' (rq HO_114001.out) (Kd.R_base ho0) hb)
          have n2_:=zk (Kd.R_elder' (rq HO_115000.out) (Kd.R_base ho0) hb)
          have n3_:=zk (Kd.R_elder' (rq HO_115001.out) (Kd.R_base ho0) hb)
          have n4_:=zk (Kd.R_below (rq HO122.out) hb)
          have n5_:=zk (Kd.R_elder' (rq HO125.out) (Kd.R_base ho0) hb)
          have n6_:=zk (Kd.R_below (rq HO128.out) hb)
          have n7_:=zk (Kd.R_lower (Kd.R_new' (Kd.R_new' (Kd.R_new' (Kd.R_new' (Kd.R_new' ho0 (Kd.R_lt (rq HO_114000.out))) (Kd.R_lt (rq HO_114001.out))) (Kd.R_lt (rq HO_115000.out))) (Kd.R_lt (rq HO_115001.out))) (Kd.R_lt (rq HO125.out))) (below_size (bg HB.out GE113 GE114)))
          have n8_:=zk (blk_below (g:=gb113) (o:=.cells #[.slice Ao16 t101.length co16,.slice Ao19 t104.length co19] 24 (0,0)) (hq BK113.out) hb)
          have n9_:=zk (blk_below (g:=gb114) (o:=.cells #[.slice (some ad118) t107.length co20,.slice Ao22 t110.length co22] 25 (0,0)) (hq BK114.out) hb)
          have n10_:=zk (below_step (bg HB.out GE113 GE114) hb)
          clear HO_114000
          clear HO_114001
          clear HO_115000
          clear HO_115001
          clear HO122
          clear HO125
          clear HO128
          clear BK113
          clear BK114
          clear HB
          have HO_114000:=n0_
          have HO_114001:=n1_
          have HO_115000:=n2_
          have HO_115001:=n3_
          have HO122:=n4_
          have HO125:=n5_
          have HO128:=n6_
          have HO131:=n7_
          have BK113:=n8_
          have BK114:=n9_
          have HB:=n10_
          clear n0_ n1_ n2_ n3_ n4_ n5_ n6_ n7_ n8_ n9_ n10_
          (try clear hb)
          (try clear hb2)
          (try clear hk)
          (try clear hi)
          (try clear ho0)
          obtain ⟨Ao59,co59,eo59⟩:=Kd.R_slice HO131.out
          (first|subst eo59|(injection eo59 with f1_ f2_ f3_;have f4_:=f1_.symm;have f5_:=f3_.symm;clear f1_ f2_ f3_;subst f4_;subst f5_))
          obtain ⟨Ao60,co60,eo60⟩:=Kd.R_slice HO125.out
          (first|subst eo60|(injection eo60 with f1_ f2_ f3_;have f4_:=f1_.symm;have f5_:=f3_.symm;clear f1_ f2_ f3_;subst f4_;subst f5_))
          refine hK.out _ _ ⟨(blk_cell BK113.out 0).trans rfl,(blk_cell BK113.out 1).trans rfl,(blk_cell BK114.out 0).trans rfl,(blk_cell BK114.out 1).trans rfl⟩ (fun hHeld=>?_)
          clear hK K
          refine norm_ (a':=?_) ?_ ?_
          rotate_left
          ·show Act.put _ (some 58) _ = _
           simp only [Act.put,List.setIfInBounds_toArray,List.set_cons_zero,List.set_cons_succ,i64_w,i32_w]
           rfl
          refine one_ (i:=5) (N:=some 60) #[true,true,true,true,true,true,false,false,false,false,false,false,false,false,false,false,false,false,false,false,false,false,false,false,false,false,false,false,false,false,false,false,false,false,false,false,false,false,false,false,false,false,false,false,false,false,false,false] rfl rfl (one_of HT_.out (by kernel_rfl)) (by decide) (fun K hK=>?_)
          refine goes_ Try.func32 (by kernel_rfl) rfl #[.slice Ao59 t129.length co59,.slice Ao60 t123.length co60] (by rfl) rfl rfl oF ?_
          with_reducible refine (q14.calls kj11 _ _ t129 _ _ t123 true _ ?side1 ?side2 ?side3 ?side4 A31.out).mono ?_
          (case side1=>exact cq ((Kd.R_reads' HO131.out).2.2))
          (case side2=>exact (Kd.R_reads' HO131.out).2.1)
          (case side3=>exact cq ((Kd.R_reads' HO125.out).2.2))
          (case side4=>exact (Kd.R_reads' HO125.out).2.1)
          rintro e w' ⟨rfl,⟨nd,rfl⟩⟩
          refine ⟨_,rfl,?_⟩
          obtain ⟨Ao61,co61,eo61⟩:=Kd.R_slice HO128.out
          (first|subst eo61|(injection eo61 with f1_ f2_ f3_;have f4_:=f1_.symm;have f5_:=f3_.symm;clear f1_ f2_ f3_;subst f4_;subst f5_))
          refine hK.out _ _ ⟨(blk_cell BK113.out 0).trans rfl,(blk_cell BK113.out 1).trans rfl,(blk_cell BK114.out 0).trans rfl,(blk_cell BK114.out 1).trans rfl⟩ (fun hHeld=>?_)
          clear hK K
          refine norm_ (a':=?_) ?_ ?_
          rotate_left
          ·show Act.put _ (some 60) _ = _
           simp only [Act.put,List.setIfInBounds_toArray,List.set_cons_zero,List.set_cons_succ,i64_w,i32_w]
           rfl
          refine pure_ (i:=6) (N:=some 61) (v:=?_) (a':=?_) #[true,true,true,true,true,true,true,false,false,false,false,false,false,false,false,false,false,false,false,false,false,false,false,false,false,false,false,false,false,false,false,false,false,false,false,false,false,false,false,false,false,false,false,false,false,false,false,false] rfl rfl (any_of HT_.out (by kernel_rfl)) (fun _ _ _ h=>h) (Or.inl ⟨by rfl,?_⟩) ?_ ?_
          rotate_left
          ·intro w'
           go_simp
           with_reducible rfl
          rotate_left
          ·simp only [Act.put,List.setIfInBounds_toArray,List.set_cons_zero,List.set_cons_succ,i64_w,i32_w]
           rfl
          refine pure_ (i:=8) (N:=some 63) (v:=?_) (a':=?_) #[true,true,true,true,true,true,true,false,true,false,false,false,false,false,false,false,false,false,false,false,false,false,false,false,false,false,false,false,false,false,false,false,false,false,false,false,false,false,false,false,false,false,false,false,false,false,false,false] rfl rfl (any_of HT_.out (by kernel_rfl)) (fun _ _ _ h=>h) (Or.inl ⟨by rfl,?_⟩) ?_ ?_
          rotate_left
          ·intro w'
           go_simp
           with_reducible rfl
          rotate_left
          ·simp only [Act.put,List.setIfInBounds_toArray,List.set_cons_zero,List.set_cons_succ,i64_w,i32_w]
           rfl
          refine pure_ (i:=9) (N:=some 64) (v:=?_) (a':=?_) #[true,true,true,true,true,true,true,false,true,true,false,false,false,false,false,false,false,false,false,false,false,false,false,false,false,false,false,false,false,false,false,false,false,false,false,false,false,false,false,false,false,false,false,false,false,false,false,false] rfl rfl (any_of HT_.out (by kernel_rfl)) (fun _ _ _ h=>h) (Or.inl ⟨by rfl,?_⟩) ?_ ?_
          rotate_left
          ·intro w'
           go_simp
           with_reducible rfl
          rotate_left
          ·simp only [Act.put,List.setIfInBounds_toArray,List.set_cons_zero,List.set_cons_succ,i64_w,i32_w]
           rfl
          refine pure_ (i:=10) (N:=some 65) (v:=?_) (a':=?_) #[true,true,true,true,true,true,true,false,true,true,true,false,false,false,false,false,false,false,false,false,false,false,false,false,false,false,false,false,false,false,false,false,false,false,false,false,false,false,false,false,false,false,false,false,false,false,false,false] rfl rfl (any_of HT_.out (by kernel_rfl)) (fun _ _ _ h=>h) (Or.inl ⟨by rfl,?_⟩) ?_ ?_
          rotate_left
          ·intro w'
           go_simp
           with_reducible rfl
          rotate_left
          ·simp only [Act.put,List.setIfInBounds_toArray,List.set_cons_zero,List.set_cons_succ,i64_w,i32_w]
           rfl
          refine pure_ (i:=13) (N:=some 68) (v:=?_) (a':=?_) #[true,true,true,true,true,true,true,false,true,true,true,false,false,true,false,false,false,false,false,false,false,false,false,false,false,false,false,false,false,false,false,false,false,false,false,false,false,false,false,false,false,false,false,false,false,false,false,false] rfl rfl (any_of HT_.out (by kernel_rfl)) (fun _ _ _ h=>h) (Or.inl ⟨by rfl,?_⟩) ?_ ?_
          rotate_left
          ·intro w'
           go_simp
           with_reducible rfl
          rotate_left
          ·simp only [Act.put,List.setIfInBounds_toArray,List.set_cons_zero,List.set_cons_succ,i64_w,i32_w]
           rfl
          refine pure_ (i:=14) (N:=some 69) (v:=?_) (a':=?_) #[true,true,true,true,true,true,true,false,true,true,true,false,false,true,true,false,false,false,false,false,false,false,false,false,false,false,false,false,false,false,false,false,false,false,false,false,false,false,false,false,false,false,false,false,false,false,false,false] rfl rfl (any_of HT_.out (by kernel_rfl)) (fun _ _ _ h=>h) (Or.inl ⟨by rfl,?_⟩) ?_ ?_
          rotate_left
          ·intro w'
           go_simp
           with_reducible rfl
          rotate_left
          ·simp only [Act.put,List.setIfInBounds_toArray,List.set_cons_zero,List.set_cons_succ,i64_w,i32_w]
           rfl
          refine pure_ (i:=15) (N:=some 70) (v:=?_) (a':=?_) #[true,true,true,true,true,true,true,false,true,true,true,false,false,true,true,true,false,false,false,false,false,false,false,false,false,false,false,false,false,false,false,false,false,false,false,false,false,false,false,false,false,false,false,false,false,false,false,false] rfl rfl (any_of HT_.out (by kernel_rfl)) (fun _ _ _ h=>h) (Or.inl ⟨by rfl,?_⟩) ?_ ?_
          rotate_left
          ·intro w'
           go_simp
           with_reducible rfl
          rotate_left
          ·simp only [Act.put,List.setIfInBounds_toArray,List.set_cons_zero,List.set_cons_succ,i64_w,i32_w]
           rfl
          refine take_ (i:=7) (N:=some 62) (v:=?_) (a':=?_) #[true,true,true,true,true,true,true,true,true,true,true,false,false,true,true,true,false,false,false,false,false,false,false,false,false,false,false,false,false,false,false,false,false,false,false,false,false,false,false,false,false,false,false,false,false,false,false,false] rfl rfl (take_ofW HT_.out HW_.out (by kernel_rfl)) (fun _ _ _ h=>h) (Or.inl ⟨by rfl,?_⟩) hHeld ?_ ?_
          rotate_left
          ·rintro w' ⟨s0,s1,s2,s3⟩
           go_simp
           with_reducible rfl
          rotate_left
          ·simp only [Act.put,List.setIfInBounds_toArray,List.set_cons_zero,List.set_cons_succ,i64_w,i32_w]
           rfl
          refine take_ (i:=12) (N:=some 67) (v:=?_) (a':=?_) #[true,true,true,true,true,true,true,true,true,true,true,false,true,true,true,true,false,false,false,false,false,false,false,false,false,false,false,false,false,false,false,false,false,false,false,false,false,false,false,false,false,false,false,false,false,false,false,false] rfl rfl (take_ofW HT_.out HW_.out (by kernel_rfl)) (fun _ _ _ h=>h) (Or.inl ⟨by rfl,?_⟩) hHeld ?_ ?_
          rotate_left
          ·rintro w' ⟨s0,s1,s2,s3⟩
           go_simp
           with_reducible rfl
          rotate_left
          ·simp only [Act.put,List.setIfInBounds_toArray,List.set_cons_zero,List.set_cons_succ,i64_w,i32_w]
           rfl
          refine one_ (i:=11) (N:=some 66) #[true,true,true,true,true,true,true,true,true,true,true,true,true,true,true,true,false,false,false,false,false,false,false,false,false,false,false,false,false,false,false,false,false,false,false,false,false,false,false,false,false,false,false,false,false,false,false,false] rfl rfl (one_of HT_.out (by kernel_rfl)) (by decide) (fun K hK=>?_)
          refine goes_ Try.func33 (by kernel_rfl) rfl #[.agg #[.slice Ao16 t101.length co16,.slice Ao19 t104.length co19],.int .i64 t119,.int .i64 t117,.slice Ao61 t126.length co61] (by rfl) rfl rfl oF ?_
          with_reducible refine (q32.calls _ _ t101 _ _ t104 t119 t117 _ _ t126 t133 _ ?side1 ?side2 ?side3 ?side4 ?side5 ?side6 A33.out).mono ?_
          (case side1=>exact cq ((Kd.R_reads' HO_114000.out).2.2))
          (case side2=>exact (Kd.R_reads' HO_114000.out).2.1)
          (case side3=>exact cq ((Kd.R_reads' HO_114001.out).2.2))
          (case side4=>exact (Kd.R_reads' HO_114001.out).2.1)
          (case side5=>exact cq ((Kd.R_reads' HO128.out).2.2))
          (case side6=>exact (Kd.R_reads' HO128.out).2.1)
          rintro e w62 ⟨v134,rfl,ho0,hb⟩
          refine ⟨_,rfl,?_⟩
          have n0_:=zk (Kd.R_elder' (rq HO_114000.out) (Kd.R_base ho0) hb)
          have n1_:=zk (Kd.R_elder' (rq HO_114001.out) (Kd.R_base ho0) hb)
          have n2_:=zk (Kd.R_elder' (rq HO_115000.out) (Kd.R_base ho0) hb)
          have n3_:=zk (Kd.R_elder' (rq HO_115001.out) (Kd.R_base ho0) hb)
          have n4_:=zk (Kd.R_below (rq HO122.out) hb)
          have n5_:=zk (Kd.R_elder' (rq HO125.out) (Kd.R_base ho0) hb)
          have n6_:=zk (Kd.R_below (rq HO128.out) hb)
          have n7_:=zk (Kd.R_elder' (rq HO131.out) (Kd.R_base ho0) hb)
          have n8_:=zk (Kd.R_lower (Kd.R_new' (Kd.R_new' (Kd.R_new' (Kd.R_new' (Kd.R_new' (Kd.R_new' ho0 (Kd.R_lt (rq HO_114000.out))) (Kd.R_lt (rq HO_114001.out))) (Kd.R_lt (rq HO_115000.out))) (Kd.R_lt (rq HO_115001.out))) (Kd.R_lt (rq HO125.out))) (Kd.R_lt (rq HO131.out))) (below_size (bg HB.out GE113 GE114)))
          have n9_:=zk (blk_below (g:=gb113) (o:=.cells #[.slice Ao16 t101.length co16,.slice Ao19 t104.length co19] 24 (0,0)) (hq BK113.out) hb)
          have n10_:=zk (blk_below (g:=gb114) (o:=.cells #[.slice (some ad118) t107.length co20,.slice Ao22 t110.length co22] 25 (0,0)) (hq BK114.out) hb)
          have n11_:=zk (below_step (bg HB.out GE113 GE114) hb)
          clear HO_114000
          clear HO_114001
          clear HO_115000
          clear HO_115001
          clear HO122
          clear HO125
          clear HO128
          clear HO131
          clear BK113
          clear BK114
          clear HB
          have HO_114000:=n0_
          have HO_114001:=n1_
          have HO_115000:=n2_
          have HO_115001:=n3_
          have HO122:=n4_
          have HO125:=n5_
          have HO128:=n6_
          have HO131:=n7_
          have HO135:=n8_
          have BK113:=n9_
          have BK114:=n10_
          have HB:=n11_
          clear n0_ n1_ n2_ n3_ n4_ n5_ n6_ n7_ n8_ n9_ n10_ n11_
          (try clear hb)
          (try clear hb2)
          (try clear hk)
          (try clear hi)
          (try clear ho0)
          refine hK.out _ _ ⟨(blk_cell BK113.out 0).trans rfl,(blk_cell BK113.out 1).trans rfl,(blk_cell BK114.out 0).trans rfl,(blk_cell BK114.out 1).trans rfl⟩ (fun hHeld=>?_)
          clear hK K
          refine norm_ (a':=?_) ?_ ?_
          rotate_left
          ·show Act.put _ (some 66) _ = _
           simp only [Act.put,List.setIfInBounds_toArray,List.set_cons_zero,List.set_cons_succ,i64_w,i32_w]
           rfl
          refine one_ (i:=16) (N:=some 71) #[true,true,true,true,true,true,true,true,true,true,true,true,true,true,true,true,true,false,false,false,false,false,false,false,false,false,false,false,false,false,false,false,false,false,false,false,false,false,false,false,false,false,false,false,false,false,false,false] rfl rfl (one_of HT_.out (by kernel_rfl)) (by decide) (fun K hK=>?_)
          refine goes_ Try.func37 (by kernel_rfl) rfl #[.agg #[.slice (some ad118) t107.length co20,.slice Ao22 t110.length co22],.int .i64 t119,.int .i64 t117,.slice Ao55 t120.length co55] (by rfl) rfl rfl oF ?_
          with_reducible refine (q4.calls kj11 _ _ t107 _ _ t110 t119 t117 _ _ t120 t136 _ ?side1 ?side2 ?side3 ?side4 ?side5 ?side6 A34.out).mono ?_
          (case side1=>exact cq ((Kd.R_reads' HO_115000.out).2.2))
          (case side2=>exact (Kd.R_reads' HO_115000.out).2.1)
          (case side3=>exact cq ((Kd.R_reads' HO_115001.out).2.2))
          (case side4=>exact (Kd.R_reads' HO_115001.out).2.1)
          (case side5=>exact cq ((Kd.R_reads' HO122.out).2.2))
          (case side6=>exact (Kd.R_reads' HO122.out).2.1)
          rintro e w63 ⟨v137,rfl,ho0,hb⟩
          refine ⟨_,rfl,?_⟩
          have n0_:=zk (Kd.R_elder' (rq HO_114000.out) (Kd.R_base ho0) hb)
          have n1_:=zk (Kd.R_elder' (rq HO_114001.out) (Kd.R_base ho0) hb)
          have n2_:=zk (Kd.R_elder' (rq HO_115000.out) (Kd.R_base ho0) hb)
          have n3_:=zk (Kd.R_elder' (rq HO_115001.out) (Kd.R_base ho0) hb)
          have n4_:=zk (Kd.R_below (rq HO122.out) hb)
          have n5_:=zk (Kd.R_elder' (rq HO125.out) (Kd.R_base ho0) hb)
          have n6_:=zk (Kd.R_below (rq HO128.out) hb)
          have n7_:=zk (Kd.R_elder' (rq HO131.out) (Kd.R_base ho0) hb)
          have n8_:=zk (Kd.R_elder' (rq HO135.out) (Kd.R_base ho0) hb)
          have n9_:=zk (Kd.R_lower (Kd.R_new' (Kd.R_new' (Kd.R_new' (Kd.R_new' (Kd.R_new' (Kd.R_new' (Kd.R_new' ho0 (Kd.R_lt (rq HO_114000.out))) (Kd.R_lt (rq HO_114001.out))) (Kd.R_lt (rq HO_115000.out))) (Kd.R_lt (rq HO_115001.out))) (Kd.R_lt (rq HO125.out))) (Kd.R_lt (rq HO131.out))) (Kd.R_lt (rq HO135.out))) (below_size (bg HB.out GE113 GE114)))
          have n10_:=zk (blk_below (g:=gb113) (o:=.cells #[.slice Ao16 t101.length co16,.slice Ao19 t104.length co19] 24 (0,0)) (hq BK113.out) hb)
          have n11_:=zk (blk_below (g:=gb114) (o:=.cells #[.slice (some ad118) t107.length co20,.slice Ao22 t110.length co22] 25 (0,0)) (hq BK114.out) hb)
          have n12_:=zk (below_step (bg HB.out GE113 GE114) hb)
          clear HO_114000
          clear HO_114001
          clear HO_115000
          clear HO_115001
          clear HO122
          clear HO125
          clear HO128
          clear HO131
          clear HO135
          clear BK113
          clear BK114
          clear HB
          have HO_114000:=n0_
          have HO_114001:=n1_
          have HO_115000:=n2_
          have HO_115001:=n3_
          have HO122:=n4_
          have HO125:=n5_
          have HO128:=n6_
          have HO131:=n7_
          have HO135:=n8_
          have HO138:=n9_
          have BK113:=n10_
          have BK114:=n11_
          have HB:=n12_
          clear n0_ n1_ n2_ n3_ n4_ n5_ n6_ n7_ n8_ n9_ n10_ n11_ n12_
          (try clear hb)
          (try clear hb2)
          (try clear hk)
          (try clear hi)
          (try clear ho0)
          obtain ⟨Ao64,co64,eo64⟩:=Kd.R_slice HO135.out
          (first|subst eo64|(injection eo64 with f1_ f2_ f3_;have f4_:=f1_.symm;have f5_:=f3_.symm;clear f1_ f2_ f3_;subst f4_;subst f5_))
          obtain ⟨Ao65,co65,eo65⟩:=Kd.R_slice HO138.out
          (first|subst eo65|(injection eo65 with f1_ f2_ f3_;have f4_:=f1_.symm;have f5_:=f3_.symm;clear f1_ f2_ f3_;subst f4_;subst f5_))
          refine hK.out _ _ ⟨(blk_cell BK113.out 0).trans rfl,(blk_cell BK113.out 1).trans rfl,(blk_cell BK114.out 0).trans rfl,(blk_cell BK114.out 1).trans rfl⟩ (fun hHeld=>?_)
          clear hK K
          refine norm_ (a':=?_) ?_ ?_
          rotate_left
          ·show Act.put _ (some 71) _ = _
           simp only [Act.put,List.setIfInBounds_toArray,List.set_cons_zero,List.set_cons_succ,i64_w,i32_w]
           rfl
          refine one_ (i:=17) (N:=some 72) #[true,true,true,true,true,true,true,true,true,true,true,true,true,true,true,true,true,true,false,false,false,false,false,false,false,false,false,false,false,false,false,false,false,false,false,false,false,false,false,false,false,false,false,false,false,false,false,false] rfl rfl (one_of HT_.out (by kernel_rfl)) (by decide) (fun K hK=>?_)
          refine goes_ Try.func32 (by kernel_rfl) rfl #[.slice Ao64 t133.length co64,.slice Ao65 t136.length co65] (by rfl) rfl rfl oF ?_
          with_reducible refine (q14.calls kj11 _ _ t133 _ _ t136 true _ ?side1 ?side2 ?side3 ?side4 A35.out).mono ?_
          (case side1=>exact cq ((Kd.R_reads' HO135.out).2.2))
          (case side2=>exact (Kd.R_reads' HO135.out).2.1)
          (case side3=>exact cq ((Kd.R_reads' HO138.out).2.2))
          (case side4=>exact (Kd.R_reads' HO138.out).2.1)
          rintro e w' ⟨rfl,⟨nd,rfl⟩⟩
          refine ⟨_,rfl,?_⟩
          refine hK.out _ _ ⟨(blk_cell BK113.out 0).trans rfl,(blk_cell BK113.out 1).trans rfl,(blk_cell BK114.out 0).trans rfl,(blk_cell BK114.out 1).trans rfl⟩ (fun hHeld=>?_)
          clear hK K
          refine norm_ (a':=?_) ?_ ?_
          rotate_left
          ·show Act.put _ (some 72) _ = _
           simp only [Act.put,List.setIfInBounds_toArray,List.set_cons_zero,List.set_cons_succ,i64_w,i32_w]
           rfl
          refine pure_ (i:=18) (N:=some 73) (v:=?_) (a':=?_) #[true,true,true,true,true,true,true,true,true,true,true,true,true,true,true,true,true,true,true,false,false,false,false,false,false,false,false,false,false,false,false,false,false,false,false,false,false,false,false,false,false,false,false,false,false,false,false,false] rfl rfl (any_of HT_.out (by kernel_rfl)) (fun _ _ _ h=>h) (Or.inl ⟨by rfl,?_⟩) ?_ ?_
          rotate_left
          ·intro w'
           go_simp
           with_reducible rfl
          rotate_left
          ·simp only [Act.put,List.setIfInBounds_toArray,List.set_cons_zero,List.set_cons_succ,i64_w,i32_w]
           rfl
          refine pure_ (i:=19) (N:=some 74) (v:=?_) (a':=?_) #[true,true,true,true,true,true,true,true,true,true,true,true,true,true,true,true,true,true,true,true,false,false,false,false,false,false,false,false,false,false,false,false,false,false,false,false,false,false,false,false,false,false,false,false,false,false,false,false] rfl rfl (any_of HT_.out (by kernel_rfl)) (fun _ _ _ h=>h) (Or.inl ⟨by rfl,?_⟩) ?_ ?_
          rotate_left
          ·intro w'
           go_simp
           with_reducible rfl
          rotate_left
          ·simp only [Act.put,List.setIfInBounds_toArray,List.set_cons_zero,List.set_cons_succ,i64_w,i32_w]
           rfl
          refine take_ (i:=20) (N:=some 75) (v:=?_) (a':=?_) #[true,true,true,true,true,true,true,true,true,true,true,true,true,true,true,true,true,true,true,true,true,false,false,false,false,false,false,false,false,false,false,false,false,false,false,false,false,false,false,false,false,false,false,false,false,false,false,false] rfl rfl (take_ofW HT_.out HW_.out (by kernel_rfl)) (fun _ _ _ h=>h) (Or.inl ⟨by rfl,?_⟩) hHeld ?_ ?_
          rotate_left
          ·rintro w' ⟨s0,s1,s2,s3⟩
           go_simp
           with_reducible rfl
          rotate_left
          ·simp only [Act.put,List.setIfInBounds_toArray,List.set_cons_zero,List.set_cons_succ,i64_w,i32_w]
           rfl
          refine take_ (i:=22) (N:=some 77) (v:=?_) (a':=?_) #[true,true,true,true,true,true,true,true,true,true,true,true,true,true,true,true,true,true,true,true,true,false,true,false,false,false,false,false,false,false,false,false,false,false,false,false,false,false,false,false,false,false,false,false,false,false,false,false] rfl rfl (take_ofW HT_.out HW_.out (by kernel_rfl)) (fun _ _ _ h=>h) (Or.inl ⟨by rfl,?_⟩) hHeld ?_ ?_
          rotate_left
          ·rintro w' ⟨s0,s1,s2,s3⟩
           go_simp
           with_reducible rfl
          rotate_left
          ·simp only [Act.put,List.setIfInBounds_toArray,List.set_cons_zero,List.set_cons_succ,i64_w,i32_w]
           rfl
          refine one_ (i:=21) (N:=some 76) #[true,true,true,true,true,true,true,true,true,true,true,true,true,true,true,true,true,true,true,true,true,true,true,false,false,false,false,false,false,false,false,false,false,false,false,false,false,false,false,false,false,false,false,false,false,false,false,false] rfl rfl (one_of HT_.out (by kernel_rfl)) (by decide) (fun K hK=>?_)
          refine goes_ Try.func29 (by kernel_rfl) rfl #[.agg #[.slice Ao16 t101.length co16,.slice Ao19 t104.length co19]] (by rfl) rfl rfl oF ?_
          with_reducible refine (q35.calls _ _ t101 _ _ t104 t140 _ ?side1 ?side2 ?side3 ?side4 A37.out).mono ?_
          (case side1=>exact cq ((Kd.R_reads' HO_114000.out).2.2))
          (case side2=>exact (Kd.R_reads' HO_114000.out).2.1)
          (case side3=>exact cq ((Kd.R_reads' HO_114001.out).2.2))
          (case side4=>exact (Kd.R_reads' HO_114001.out).2.1)
          rintro e w66 ⟨v141,rfl,ho0,hb⟩
          refine ⟨_,rfl,?_⟩
          have n0_:=zk (Kd.R_elder' (rq HO_114000.out) (Kd.R_base ho0) hb)
          have n1_:=zk (Kd.R_elder' (rq HO_114001.out) (Kd.R_base ho0) hb)
          have n2_:=zk (Kd.R_elder' (rq HO_115000.out) (Kd.R_base ho0) hb)
          have n3_:=zk (Kd.R_elder' (rq HO_115001.out) (Kd.R_base ho0) hb)
          have n4_:=zk (Kd.R_below (rq HO122.out) hb)
          have n5_:=zk (Kd.R_elder' (rq HO125.out) (Kd.R_base ho0) hb)
          have n6_:=zk (Kd.R_below (rq HO128.out) hb)
          have n7_:=zk (Kd.R_elder' (rq HO131.out) (Kd.R_base ho0) hb)
          have n8_:=zk (Kd.R_elder' (rq HO135.out) (Kd.R_base ho0) hb)
          have n9_:=zk (Kd.R_elder' (rq HO138.out) (Kd.R_base ho0) hb)
          have n10_:=zk (Kd.R_lower (Kd.R_new' (Kd.R_new' (Kd.R_new' (Kd.R_new' (Kd.R_new' (Kd.R_new' (Kd.R_new' (Kd.R_new' ho0 (Kd.R_lt (rq HO_114000.out))) (Kd.R_lt (rq HO_114001.out))) (Kd.R_lt (rq HO_115000.out))) (Kd.R_lt (rq HO_115001.out))) (Kd.R_lt (rq HO125.out))) (Kd.R_lt (rq HO131.out))) (Kd.R_lt (rq HO135.out))) (Kd.R_lt (rq HO138.out))) (below_size (bg HB.out GE113 GE114)))
          have n11_:=zk (blk_below (g:=gb113) (o:=.cells #[.slice Ao16 t101.length co16,.slice Ao19 t104.length co19] 24 (0,0)) (hq BK113.out) hb)
          have n12_:=zk (blk_below (g:=gb114) (o:=.cells #[.slice (some ad118) t107.length co20,.slice Ao22 t110.length co22] 25 (0,0)) (hq BK114.out) hb)
          have n13_:=zk (below_step (bg HB.out GE113 GE114) hb)
          clear HO_114000
          clear HO_114001
          clear HO_115000
          clear HO_115001
          clear HO122
          clear HO125
          clear HO128
          clear HO131
          clear HO135
          clear HO138
          clear BK113
          clear BK114
          clear HB
          have HO_114000:=n0_
          have HO_114001:=n1_
          have HO_115000:=n2_
          have HO_115001:=n3_
          have HO122:=n4_
          have HO125:=n5_
          have HO128:=n6_
          have HO131:=n7_
          have HO135:=n8_
          have HO138:=n9_
          have HO142:=n10_
          have BK113:=n11_
          have BK114:=n12_
          have HB:=n13_
          clear n0_ n1_ n2_ n3_ n4_ n5_ n6_ n7_ n8_ n9_ n10_ n11_ n12_ n13_
          (try clear hb)
          (try clear hb2)
          (try clear hk)
          (try clear hi)
          (try clear ho0)
          refine hK.out _ _ ⟨(blk_cell BK113.out 0).trans rfl,(blk_cell BK113.out 1).trans rfl,(blk_cell BK114.out 0).trans rfl,(blk_cell BK114.out 1).trans rfl⟩ (fun hHeld=>?_)
          clear hK K
          refine norm_ (a':=?_) ?_ ?_
          rotate_left
          ·show Act.put _ (some 76) _ = _
           simp only [Act.put,List.setIfInBounds_toArray,List.set_cons_zero,List.set_cons_succ,i64_w,i32_w]
           rfl
          refine one_ (i:=23) (N:=some 78) #[true,true,true,true,true,true,true,true,true,true,true,true,true,true,true,true,true,true,true,true,true,true,true,true,false,false,false,false,false,false,false,false,false,false,false,false,false,false,false,false,false,false,false,false,false,false,false,false] rfl rfl (one_of HT_.out (by kernel_rfl)) (by decide) (fun K hK=>?_)
          refine goes_ Try.func38 (by kernel_rfl) rfl #[.agg #[.slice (some ad118) t107.length co20,.slice Ao22 t110.length co22]] (by rfl) rfl rfl oF ?_
          with_reducible refine (q6.calls kj11 _ _ t107 _ _ t110 t143 _ ?side1 ?side2 ?side3 ?side4 A38.out).mono ?_
          (case side1=>exact cq ((Kd.R_reads' HO_115000.out).2.2))
          (case side2=>exact (Kd.R_reads' HO_115000.out).2.1)
          (case side3=>exact cq ((Kd.R_reads' HO_115001.out).2.2))
          (case side4=>exact (Kd.R_reads' HO_115001.out).2.1)
          rintro e w67 ⟨v144,rfl,ho0,hb⟩
          refine ⟨_,rfl,?_⟩
          have n0_:=zk (Kd.R_elder' (rq HO_114000.out) (Kd.R_base ho0) hb)
          have n1_:=zk (Kd.R_elder' (rq HO_114001.out) (Kd.R_base ho0) hb)
          have n2_:=zk (Kd.R_elder' (rq HO_115000.out) (Kd.R_base ho0) hb)
          have n3_:=zk (Kd.R_elder' (rq HO_115001.out) (Kd.R_base ho0) hb)
          have n4_:=zk (Kd.R_below (rq HO122.out) hb)
          have n5_:=zk (Kd.R_elder' (rq HO125.out) (Kd.R_base ho0) hb)
          have n6_:=zk (Kd.R_below (rq HO128.out) hb)
          have n7_:=zk (Kd.R_elder' (rq HO131.out) (Kd.R_base ho0) hb)
          have n8_:=zk (Kd.R_elder' (rq HO135.out) (Kd.R_base ho0) hb)
          have n9_:=zk (Kd.R_elder' (rq HO138.out) (Kd.R_base ho0) hb)
          have n10_:=zk (Kd.R_elder' (rq HO142.out) (Kd.R_base ho0) hb)
          have n11_:=zk (Kd.R_lower (Kd.R_new' (Kd.R_new' (Kd.R_new' (Kd.R_new' (Kd.R_new' (Kd.R_new' (Kd.R_new' (Kd.R_new' (Kd.R_new' ho0 (Kd.R_lt (rq HO_114000.out))) (Kd.R_lt (rq HO_114001.out))) (Kd.R_lt (rq HO_115000.out))) (Kd.R_lt (rq HO_115001.out))) (Kd.R_lt (rq HO125.out))) (Kd.R_lt (rq HO131.out))) (Kd.R_lt (rq HO135.out))) (Kd.R_lt (rq HO138.out))) (Kd.R_lt (rq HO142.out))) (below_size (bg HB.out GE113 GE114)))
          have n12_:=zk (blk_below (g:=gb113) (o:=.cells #[.slice Ao16 t101.length co16,.slice Ao19 t104.length co19] 24 (0,0)) (hq BK113.out) hb)
          have n13_:=zk (blk_below (g:=gb114) (o:=.cells #[.slice (some ad118) t107.length co20,.slice Ao22 t110.length co22] 25 (0,0)) (hq BK114.out) hb)
          have n14_:=zk (below_step (bg HB.out GE113 GE114) hb)
          clear HO_114000
          clear HO_114001
          clear HO_115000
          clear HO_115001
          clear HO122
          clear HO125
          clear HO128
          clear HO131
          clear HO135
          clear HO138
          clear HO142
          clear BK113
          clear BK114
          clear HB
          have HO_114000:=n0_
          have HO_114001:=n1_
          have HO_115000:=n2_
          have HO_115001:=n3_
          have HO122:=n4_
          have HO125:=n5_
          have HO128:=n6_
          have HO131:=n7_
          have HO135:=n8_
          have HO138:=n9_
          have HO142:=n10_
          have HO145:=n11_
          have BK113:=n12_
          have BK114:=n13_
          have HB:=n14_
          clear n0_ n1_ n2_ n3_ n4_ n5_ n6_ n7_ n8_ n9_ n10_ n11_ n12_ n13_ n14_
          (try clear hb)
          (try clear hb2)
          (try clear hk)
          (try clear hi)
          (try clear ho0)
          obtain ⟨Ao68,co68,eo68⟩:=Kd.R_slice HO142.out
          (first|subst eo68|(injection eo68 with f1_ f2_ f3_;have f4_:=f1_.symm;have f5_:=f3_.symm;clear f1_ f2_ f3_;subst f4_;subst f5_))
          obtain ⟨Ao69,co69,eo69⟩:=Kd.R_slice HO145.out
          (first|subst eo69|(injection eo69 with f1_ f2_ f3_;have f4_:=f1_.symm;have f5_:=f3_.symm;clear f1_ f2_ f3_;subst f4_;subst f5_))
          refine hK.out _ _ ⟨(blk_cell BK113.out 0).trans rfl,(blk_cell BK113.out 1).trans rfl,(blk_cell BK114.out 0).trans rfl,(blk_cell BK114.out 1).trans rfl⟩ (fun hHeld=>?_)
          clear hK K
          refine norm_ (a':=?_) ?_ ?_
          rotate_left
          ·show Act.put _ (some 78) _ = _
           simp only [Act.put,List.setIfInBounds_toArray,List.set_cons_zero,List.set_cons_succ,i64_w,i32_w]
           rfl
          refine one_ (i:=24) (N:=some 79) #[true,true,true,true,true,true,true,true,true,true,true,true,true,true,true,true,true,true,true,true,true,true,true,true,true,false,false,false,false,false,false,false,false,false,false,false,false,false,false,false,false,false,false,false,false,false,false,false] rfl rfl (one_of HT_.out (by kernel_rfl)) (by decide) (fun K hK=>?_)
          refine goes_ Try.func32 (by kernel_rfl) rfl #[.slice Ao68 t140.length co68,.slice Ao69 t143.length co69] (by rfl) rfl rfl oF ?_
          with_reducible refine (q14.calls kj11 _ _ t140 _ _ t143 true _ ?side1 ?side2 ?side3 ?side4 A39.out).mono ?_
          (case side1=>exact cq ((Kd.R_reads' HO142.out).2.2))
          (case side2=>exact (Kd.R_reads' HO142.out).2.1)
          (case side3=>exact cq ((Kd.R_reads' HO145.out).2.2))
          (case side4=>exact (Kd.R_reads' HO145.out).2.1)
          rintro e w' ⟨rfl,⟨nd,rfl⟩⟩
          refine ⟨_,rfl,?_⟩
          refine hK.out _ _ ⟨(blk_cell BK113.out 0).trans rfl,(blk_cell BK113.out 1).trans rfl,(blk_cell BK114.out 0).trans rfl,(blk_cell BK114.out 1).trans rfl⟩ (fun hHeld=>?_)
          clear hK K
          refine norm_ (a':=?_) ?_ ?_
          rotate_left
          ·show Act.put _ (some 79) _ = _
           simp only [Act.put,List.setIfInBounds_toArray,List.set_cons_zero,List.set_cons_succ,i64_w,i32_w]
           rfl
          refine pure_ (i:=25) (N:=some 80) (v:=?_) (a':=?_) #[true,true,true,true,true,true,true,true,true,true,true,true,true,true,true,true,true,true,true,true,true,true,true,true,true,true,false,false,false,false,false,false,false,false,false,false,false,false,false,false,false,false,false,false,false,false,false,false] rfl rfl (any_of HT_.out (by kernel_rfl)) (fun _ _ _ h=>h) (Or.inl ⟨by rfl,?_⟩) ?_ ?_
          rotate_left
          ·intro w'
           go_simp
           with_reducible rfl
          rotate_left
          ·simp only [Act.put,List.setIfInBounds_toArray,List.set_cons_zero,List.set_cons_succ,i64_w,i32_w]
           rfl
          refine pure_ (i:=26) (N:=some 81) (v:=?_) (a':=?_) #[true,true,true,true,true,true,true,true,true,true,true,true,true,true,true,true,true,true,true,true,true,true,true,true,true,true,true,false,false,false,false,false,false,false,false,false,false,false,false,false,false,false,false,false,false,false,false,false] rfl rfl (any_of HT_.out (by kernel_rfl)) (fun _ _ _ h=>h) (Or.inl ⟨by rfl,?_⟩) ?_ ?_
          rotate_left
          ·intro w'
           go_simp
           with_reducible rfl
          rotate_left
          ·simp only [Act.put,List.setIfInBounds_toArray,List.set_cons_zero,List.set_cons_succ,i64_w,i32_w]
           rfl
          refine pure_ (i:=28) (N:=some 83) (v:=?_) (a':=?_) #[true,true,true,true,true,true,true,true,true,true,true,true,true,true,true,true,true,true,true,true,true,true,true,true,true,true,true,false,true,false,false,false,false,false,false,false,false,false,false,false,false,false,false,false,false,false,false,false] rfl rfl (any_of HT_.out (by kernel_rfl)) (fun _ _ _ h=>h) (Or.inl ⟨by rfl,?_⟩) ?_ ?_
          rotate_left
          ·intro w'
           go_simp
           with_reducible rfl
          rotate_left
          ·simp only [Act.put,List.setIfInBounds_toArray,List.set_cons_zero,List.set_cons_succ,i64_w,i32_w]
           rfl
          refine pure_ (i:=29) (N:=some 84) (v:=?_) (a':=?_) #[true,true,true,true,true,true,true,true,true,true,true,true,true,true,true,true,true,true,true,true,true,true,true,true,true,true,true,false,true,true,false,false,false,false,false,false,false,false,false,false,false,false,false,false,false,false,false,false] rfl rfl (any_of HT_.out (by kernel_rfl)) (fun _ _ _ h=>h) (Or.inl ⟨by rfl,?_⟩) ?_ ?_
          rotate_left
          ·intro w'
           go_simp
           with_reducible rfl
          rotate_left
          ·simp only [Act.put,List.setIfInBounds_toArray,List.set_cons_zero,List.set_cons_succ,i64_w,i32_w]
           rfl
          refine pure_ (i:=30) (N:=some 85) (v:=?_) (a':=?_) #[true,true,true,true,true,true,true,true,true,true,true,true,true,true,true,true,true,true,true,true,true,true,true,true,true,true,true,false,true,true,true,false,false,false,false,false,false,false,false,false,false,false,false,false,false,false,false,false] rfl rfl (any_of HT_.out (by kernel_rfl)) (fun _ _ _ h=>h) (Or.inl ⟨by rfl,?_⟩) ?_ ?_
          rotate_left
          ·intro w'
           go_simp
           with_reducible rfl
          rotate_left
          ·simp only [Act.put,List.setIfInBounds_toArray,List.set_cons_zero,List.set_cons_succ,i64_w,i32_w]
           rfl
          refine pure_ (i:=33) (N:=some 88) (v:=?_) (a':=?_) #[true,true,true,true,true,true,true,true,true,true,true,true,true,true,true,true,true,true,true,true,true,true,true,true,true,true,true,false,true,true,true,false,false,true,false,false,false,false,false,false,false,false,false,false,false,false,false,false] rfl rfl (any_of HT_.out (by kernel_rfl)) (fun _ _ _ h=>h) (Or.inl ⟨by rfl,?_⟩) ?_ ?_
          rotate_left
          ·intro w'
           go_simp
           with_reducible rfl
          rotate_left
          ·simp only [Act.put,List.setIfInBounds_toArray,List.set_cons_zero,List.set_cons_succ,i64_w,i32_w]
           rfl
          refine pure_ (i:=34) (N:=some 89) (v:=?_) (a':=?_) #[true,true,true,true,true,true,true,true,true,true,true,true,true,true,true,true,true,true,true,true,true,true,true,true,true,true,true,false,true,true,true,false,false,true,true,false,false,false,false,false,false,false,false,false,false,false,false,false] rfl rfl (any_of HT_.out (by kernel_rfl)) (fun _ _ _ h=>h) (Or.inl ⟨by rfl,?_⟩) ?_ ?_
          rotate_left
          ·intro w'
           go_simp
           with_reducible rfl
          rotate_left
          ·simp only [Act.put,List.setIfInBounds_toArray,List.set_cons_zero,List.set_cons_succ,i64_w,i32_w]
           rfl
          refine pure_ (i:=35) (N:=some 90) (v:=?_) (a':=?_) #[true,true,true,true,true,true,true,true,true,true,true,true,true,true,true,true,true,true,true,true,true,true,true,true,true,true,true,false,true,true,true,false,false,true,true,true,false,false,false,false,false,false,false,false,false,false,false,false] rfl rfl (any_of HT_.out (by kernel_rfl)) (fun _ _ _ h=>h) (Or.inl ⟨by rfl,?_⟩) ?_ ?_
          rotate_left
          ·intro w'
           go_simp
           with_reducible rfl
          rotate_left
          ·simp only [Act.put,List.setIfInBounds_toArray,List.set_cons_zero,List.set_cons_succ,i64_w,i32_w]
           rfl
          refine take_ (i:=27) (N:=some 82) (v:=?_) (a':=?_) #[true,true,true,true,true,true,true,true,true,true,true,true,true,true,true,true,true,true,true,true,true,true,true,true,true,true,true,true,true,true,true,false,false,true,true,true,false,false,false,false,false,false,false,false,false,false,false,false] rfl rfl (take_ofW HT_.out HW_.out (by kernel_rfl)) (fun _ _ _ h=>h) (Or.inl ⟨by rfl,?_⟩) hHeld ?_ ?_
          rotate_left
          ·rintro w' ⟨s0,s1,s2,s3⟩
           go_simp
           with_reducible rfl
          rotate_left
          ·simp only [Act.put,List.setIfInBounds_toArray,List.set_cons_zero,List.set_cons_succ,i64_w,i32_w]
           rfl
          refine take_ (i:=32) (N:=some 87) (v:=?_) (a':=?_) #[true,true,true,true,true,true,true,true,true,true,true,true,true,true,true,true,true,true,true,true,true,true,true,true,true,true,true,true,true,true,true,false,true,true,true,true,false,false,false,false,false,false,false,false,false,false,false,false] rfl rfl (take_ofW HT_.out HW_.out (by kernel_rfl)) (fun _ _ _ h=>h) (Or.inl ⟨by rfl,?_⟩) hHeld ?_ ?_
          rotate_left
          ·rintro w' ⟨s0,s1,s2,s3⟩
           go_simp
           with_reducible rfl
          rotate_left
          ·simp only [Act.put,List.setIfInBounds_toArray,List.set_cons_zero,List.set_cons_succ,i64_w,i32_w]
           rfl
          refine one_ (i:=31) (N:=some 86) #[true,true,true,true,true,true,true,true,true,true,true,true,true,true,true,true,true,true,true,true,true,true,true,true,true,true,true,true,true,true,true,true,true,true,true,true,false,false,false,false,false,false,false,false,false,false,false,false] rfl rfl (one_of HT_.out (by kernel_rfl)) (by decide) (fun K hK=>?_)
          refine goes_ Try.func24 (by kernel_rfl) rfl #[.agg #[.slice Ao16 t101.length co16,.slice Ao19 t104.length co19],.int .u32 t115,.slice Ao60 t123.length co60,.slice Ao61 t126.length co61] (by rfl) rfl rfl oF ?_
          with_reducible refine (q26.calls kj11 _ _ t101 _ _ t104 t115 _ _ t123 _ _ t126 t147 _ ?side1 ?side2 ?side3 ?side4 ?side5 ?side6 ?side7 ?side8 A41.out).mono ?_
          (case side1=>exact cq ((Kd.R_reads' HO_114000.out).2.2))
          (case side2=>exact (Kd.R_reads' HO_114000.out).2.1)
          (case side3=>exact cq ((Kd.R_reads' HO_114001.out).2.2))
          (case side4=>exact (Kd.R_reads' HO_114001.out).2.1)
          (case side5=>exact cq ((Kd.R_reads' HO125.out).2.2))
          (case side6=>exact (Kd.R_reads' HO125.out).2.1)
          (case side7=>exact cq ((Kd.R_reads' HO128.out).2.2))
          (case side8=>exact (Kd.R_reads' HO128.out).2.1)
          rintro e w70 ⟨v148,rfl,ho0,hb⟩
          refine ⟨_,rfl,?_⟩
          have n0_:=zk (Kd.R_below (rq HO_114000.out) hb)
          have n1_:=zk (Kd.R_below (rq HO_114001.out) hb)
          have n2_:=zk (Kd.R_below (rq HO_115000.out) hb)
          have n3_:=zk (Kd.R_below (rq HO_115001.out) hb)
          have n4_:=zk (Kd.R_elder' (rq HO122.out) (Kd.R_base ho0) hb)
          have n5_:=zk (Kd.R_below (rq HO125.out) hb)
          have n6_:=zk (Kd.R_elder' (rq HO128.out) (Kd.R_base ho0) hb)
          have n7_:=zk (Kd.R_below (rq HO131.out) hb)
          have n8_:=zk (Kd.R_below (rq HO135.out) hb)
          have n9_:=zk (Kd.R_below (rq HO138.out) hb)
          have n10_:=zk (Kd.R_below (rq HO142.out) hb)
          have n11_:=zk (Kd.R_below (rq HO145.out) hb)
          have n12_:=zk (Kd.R_lower (Kd.R_new' (Kd.R_new' ho0 (Kd.R_lt (rq HO122.out))) (Kd.R_lt (rq HO128.out))) (below_size (bg HB.out GE113 GE114)))
          have n13_:=zk (blk_below (g:=gb113) (o:=.cells #[.slice Ao16 t101.length co16,.slice Ao19 t104.length co19] 24 (0,0)) (hq BK113.out) hb)
          have n14_:=zk (blk_below (g:=gb114) (o:=.cells #[.slice (some ad118) t107.length co20,.slice Ao22 t110.length co22] 25 (0,0)) (hq BK114.out) hb)
          have n15_:=zk (below_step (bg HB.out GE113 GE114) hb)
          clear HO_114000
          clear HO_114001
          clear HO_115000
          clear HO_115001
          clear HO122
          clear HO125
          clear HO128
          clear HO131
          clear HO135
          clear HO138
          clear HO142
          clear HO145
          clear BK113
          clear BK114
          clear HB
          have HO_114000:=n0_
          have HO_114001:=n1_
          have HO_115000:=n2_
          have HO_115001:=n3_
          have HO122:=n4_
          have HO125:=n5_
          have HO128:=n6_
          have HO131:=n7_
          have HO135:=n8_
          have HO138:=n9_
          have HO142:=n10_
          have HO145:=n11_
          have HO149:=n12_
          have BK113:=n13_
          have BK114:=n14_
          have HB:=n15_
          clear n0_ n1_ n2_ n3_ n4_ n5_ n6_ n7_ n8_ n9_ n10_ n11_ n12_ n13_ n14_ n15_
          (try clear hb)
          (try clear hb2)
          (try clear hk)
          (try clear hi)
          (try clear ho0)
          refine hK.out _ _ ⟨(blk_cell BK113.out 0).trans rfl,(blk_cell BK113.out 1).trans rfl,(blk_cell BK114.out 0).trans rfl,(blk_cell BK114.out 1).trans rfl⟩ (fun hHeld=>?_)
          clear hK K
          refine norm_ (a':=?_) ?_ ?_
          rotate_left
          ·show Act.put _ (some 86) _ = _
           simp only [Act.put,List.setIfInBounds_toArray,List.set_cons_zero,List.set_cons_succ,i64_w,i32_w]
           rfl
          refine one_ (i:=36) (N:=some 91) #[true,true,true,true,true,true,true,true,true,true,true,true,true,true,true,true,true,true,true,true,true,true,true,true,true,true,true,true,true,true,true,true,true,true,true,true,true,false,false,false,false,false,false,false,false,false,false,false] rfl rfl (one_of HT_.out (by kernel_rfl)) (by decide) (fun K hK=>?_)
          refine goes_ Try.func40 (by kernel_rfl) rfl #[.agg #[.slice (some ad118) t107.length co20,.slice Ao22 t110.length co22],.int .u32 t115,.slice Ao60 t123.length co60,.slice Ao55 t120.length co55] (by rfl) rfl rfl oF ?_
          with_reducible refine (q0.calls kj11 _ _ t107 _ _ t110 t115 _ _ t123 _ _ t120 t150 _ ?side1 ?side2 ?side3 ?side4 ?side5 ?side6 ?side7 ?side8 A42.out).mono ?_
          (case side1=>exact cq ((Kd.R_reads' HO_115000.out).2.2))
          (case side2=>exact (Kd.R_reads' HO_115000.out).2.1)
          (case side3=>exact cq ((Kd.R_reads' HO_115001.out).2.2))
          (case side4=>exact (Kd.R_reads' HO_115001.out).2.1)
          (case side5=>exact cq ((Kd.R_reads' HO125.out).2.2))
          (case side6=>exact (Kd.R_reads' HO125.out).2.1)
          (case side7=>exact cq ((Kd.R_reads' HO122.out).2.2))
          (case side8=>exact (Kd.R_reads' HO122.out).2.1)
          rintro e w71 ⟨v151,rfl,ho0,hb⟩
          refine ⟨_,rfl,?_⟩
          have n0_:=zk (Kd.R_below (rq HO_114000.out) hb)
          have n1_:=zk (Kd.R_below (rq HO_114001.out) hb)
          have n2_:=zk (Kd.R_below (rq HO_115000.out) hb)
          have n3_:=zk (Kd.R_below (rq HO_115001.out) hb)
          have n4_:=zk (Kd.R_elder' (rq HO122.out) (Kd.R_base ho0) hb)
          have n5_:=zk (Kd.R_below (rq HO125.out) hb)
          have n6_:=zk (Kd.R_elder' (rq HO128.out) (Kd.R_base ho0) hb)
          have n7_:=zk (Kd.R_below (rq HO131.out) hb)
          have n8_:=zk (Kd.R_below (rq HO135.out) hb)
          have n9_:=zk (Kd.R_below (rq HO138.out) hb)
          have n10_:=zk (Kd.R_below (rq HO142.out) hb)
          have n11_:=zk (Kd.R_below (rq HO145.out) hb)
          have n12_:=zk (Kd.R_elder' (rq HO149.out) (Kd.R_base ho0) hb)
          have n13_:=zk (Kd.R_lower (Kd.R_new' (Kd.R_new' (Kd.R_new' ho0 (Kd.R_lt (rq HO122.out))) (Kd.R_lt (rq HO128.out))) (Kd.R_lt (rq HO149.out))) (below_size (bg HB.out GE113 GE114)))
          have n14_:=zk (blk_below (g:=gb113) (o:=.cells #[.slice Ao16 t101.length co16,.slice Ao19 t104.length co19] 24 (0,0)) (hq BK113.out) hb)
          have n15_:=zk (blk_below (g:=gb114) (o:=.cells #[.slice (some ad118) t107.length co20,.slice Ao22 t110.length co22] 25 (0,0)) (hq BK114.out) hb)
          have n16_:=zk (below_step (bg HB.out GE113 GE114) hb)
          clear HO_114000
          clear HO_114001
          clear HO_115000
          clear HO_115001
          clear HO122
          clear HO125
          clear HO128
          clear HO131
          clear HO135
          clear HO138
          clear HO142
          clear HO145
          clear HO149
          clear BK113
          clear BK114
          clear HB
          have HO_114000:=n0_
          have HO_114001:=n1_
          have HO_115000:=n2_
          have HO_115001:=n3_
          have HO122:=n4_
          have HO125:=n5_
          have HO128:=n6_
          have HO131:=n7_
          have HO135:=n8_
          have HO138:=n9_
          have HO142:=n10_
          have HO145:=n11_
          have HO149:=n12_
          have HO152:=n13_
          have BK113:=n14_
          have BK114:=n15_
          have HB:=n16_
          clear n0_ n1_ n2_ n3_ n4_ n5_ n6_ n7_ n8_ n9_ n10_ n11_ n12_ n13_ n14_ n15_ n16_
          (try clear hb)
          (try clear hb2)
          (try clear hk)
          (try clear hi)
          (try clear ho0)
          obtain ⟨Ao72,co72,eo72⟩:=Kd.R_slice HO149.out
          (first|subst eo72|(injection eo72 with f1_ f2_ f3_;have f4_:=f1_.symm;have f5_:=f3_.symm;clear f1_ f2_ f3_;subst f4_;subst f5_))
          obtain ⟨Ao73,co73,eo73⟩:=Kd.R_slice HO152.out
          (first|subst eo73|(injection eo73 with f1_ f2_ f3_;have f4_:=f1_.symm;have f5_:=f3_.symm;clear f1_ f2_ f3_;subst f4_;subst f5_))
          refine hK.out _ _ ⟨(blk_cell BK113.out 0).trans rfl,(blk_cell BK113.out 1).trans rfl,(blk_cell BK114.out 0).trans rfl,(blk_cell BK114.out 1).trans rfl⟩ (fun hHeld=>?_)
          clear hK K
          refine norm_ (a':=?_) ?_ ?_
          rotate_left
          ·show Act.put _ (some 91) _ = _
           simp only [Act.put,List.setIfInBounds_toArray,List.set_cons_zero,List.set_cons_succ,i64_w,i32_w]
           rfl
          refine one_ (i:=37) (N:=some 92) #[true,true,true,true,true,true,true,true,true,true,true,true,true,true,true,true,true,true,true,true,true,true,true,true,true,true,true,true,true,true,true,true,true,true,true,true,true,true,false,false,false,false,false,false,false,false,false,false] rfl rfl (one_of HT_.out (by kernel_rfl)) (by decide) (fun K hK=>?_)
          refine goes_ Try.func39 (by kernel_rfl) rfl #[.slice Ao72 t147.length co72,.slice Ao73 t150.length co73] (by rfl) rfl rfl oF ?_
          with_reducible refine (q11.calls kj11 _ _ t147 _ _ t150 true _ ?side1 ?side2 ?side3 ?side4 A43.out).mono ?_
          (case side1=>exact cq ((Kd.R_reads' HO149.out).2.2))
          (case side2=>exact (Kd.R_reads' HO149.out).2.1)
          (case side3=>exact cq ((Kd.R_reads' HO152.out).2.2))
          (case side4=>exact (Kd.R_reads' HO152.out).2.1)
          rintro e w' ⟨rfl,⟨nd,rfl⟩⟩
          refine ⟨_,rfl,?_⟩
          refine hK.out _ _ ⟨(blk_cell BK113.out 0).trans rfl,(blk_cell BK113.out 1).trans rfl,(blk_cell BK114.out 0).trans rfl,(blk_cell BK114.out 1).trans rfl⟩ (fun hHeld=>?_)
          clear hK K
          refine norm_ (a':=?_) ?_ ?_
          rotate_left
          ·show Act.put _ (some 92) _ = _
           simp only [Act.put,List.setIfInBounds_toArray,List.set_cons_zero,List.set_cons_succ,i64_w,i32_w]
           rfl
          refine pure_ (i:=38) (N:=some 93) (v:=?_) (a':=?_) #[true,true,true,true,true,true,true,true,true,true,true,true,true,true,true,true,true,true,true,true,true,true,true,true,true,true,true,true,true,true,true,true,true,true,true,true,true,true,true,false,false,false,false,false,false,false,false,false] rfl rfl (any_of HT_.out (by kernel_rfl)) (fun _ _ _ h=>h) (Or.inl ⟨by rfl,?_⟩) ?_ ?_
          rotate_left
          ·intro w'
           go_simp
           with_reducible rfl
          rotate_left
          ·simp only [Act.put,List.setIfInBounds_toArray,List.set_cons_zero,List.set_cons_succ,i64_w,i32_w]
           rfl
          refine pure_ (i:=39) (N:=some 94) (v:=?_) (a':=?_) #[true,true,true,true,true,true,true,true,true,true,true,true,true,true,true,true,true,true,true,true,true,true,true,true,true,true,true,true,true,true,true,true,true,true,true,true,true,true,true,true,false,false,false,false,false,false,false,false] rfl rfl (any_of HT_.out (by kernel_rfl)) (fun _ _ _ h=>h) (Or.inl ⟨by rfl,?_⟩) ?_ ?_
          rotate_left
          ·intro w'
           go_simp
           with_reducible rfl
          rotate_left
          ·simp only [Act.put,List.setIfInBounds_toArray,List.set_cons_zero,List.set_cons_succ,i64_w,i32_w]
           rfl
          refine pure_ (i:=40) (N:=some 95) (v:=?_) (a':=?_) #[true,true,true,true,true,true,true,true,true,true,true,true,true,true,true,true,true,true,true,true,true,true,true,true,true,true,true,true,true,true,true,true,true,true,true,true,true,true,true,true,true,false,false,false,false,false,false,false] rfl rfl (any_of HT_.out (by kernel_rfl)) (fun _ _ _ h=>h) (Or.inl ⟨by rfl,?_⟩) ?_ ?_
          rotate_left
          ·intro w'
           go_simp
           with_reducible rfl
          rotate_left
          ·simp only [Act.put,List.setIfInBounds_toArray,List.set_cons_zero,List.set_cons_succ,i64_w,i32_w]
           rfl
          refine pure_ (i:=41) (N:=some 96) (v:=?_) (a':=?_) #[true,true,true,true,true,true,true,true,true,true,true,true,true,true,true,true,true,true,true,true,true,true,true,true,true,true,true,true,true,true,true,true,true,true,true,true,true,true,true,true,true,true,false,false,false,false,false,false] rfl rfl (any_of HT_.out (by kernel_rfl)) (fun _ _ _ h=>h) (Or.inl ⟨by rfl,?_⟩) ?_ ?_
          rotate_left
          ·intro w'
           go_simp
           with_reducible rfl
          rotate_left
          ·simp only [Act.put,List.setIfInBounds_toArray,List.set_cons_zero,List.set_cons_succ,i64_w,i32_w]
           rfl
          refine one_ (i:=42) (N:=some 97) #[true,true,true,true,true,true,true,true,true,true,true,true,true,true,true,true,true,true,true,true,true,true,true,true,true,true,true,true,true,true,true,true,true,true,true,true,true,true,true,true,true,true,true,false,false,false,false,false] rfl rfl (one_of HT_.out (by kernel_rfl)) (by decide) (fun K hK=>?_)
          refine goes_ Try.func39 (by kernel_rfl) rfl #[.slice Ao61 t126.length co61,.slice Ao55 t120.length co55] (by rfl) rfl rfl oF ?_
          with_reducible refine (q11.calls kj11 _ _ t126 _ _ t120 true _ ?side1 ?side2 ?side3 ?side4 A45.out).mono ?_
          (case side1=>exact cq ((Kd.R_reads' HO128.out).2.2))
          (case side2=>exact (Kd.R_reads' HO128.out).2.1)
          (case side3=>exact cq ((Kd.R_reads' HO122.out).2.2))
          (case side4=>exact (Kd.R_reads' HO122.out).2.1)
          rintro e w' ⟨rfl,⟨nd,rfl⟩⟩
          refine ⟨_,rfl,?_⟩
          refine hK.out _ _ ⟨(blk_cell BK113.out 0).trans rfl,(blk_cell BK113.out 1).trans rfl,(blk_cell BK114.out 0).trans rfl,(blk_cell BK114.out 1).trans rfl⟩ (fun hHeld=>?_)
          clear hK K
          refine norm_ (a':=?_) ?_ ?_
          rotate_left
          ·show Act.put _ (some 97) _ = _
           simp only [Act.put,List.setIfInBounds_toArray,List.set_cons_zero,List.set_cons_succ,i64_w,i32_w]
           rfl
          refine pure_ (i:=43) (N:=some 98) (v:=?_) (a':=?_) #[true,true,true,true,true,true,true,true,true,true,true,true,true,true,true,true,true,true,true,true,true,true,true,true,true,true,true,true,true,true,true,true,true,true,true,true,true,true,true,true,true,true,true,true,false,false,false,false] rfl rfl (any_of HT_.out (by kernel_rfl)) (fun _ _ _ h=>h) (Or.inl ⟨by rfl,?_⟩) ?_ ?_
          rotate_left
          ·intro w'
           go_simp
           with_reducible rfl
          rotate_left
          ·simp only [Act.put,List.setIfInBounds_toArray,List.set_cons_zero,List.set_cons_succ,i64_w,i32_w]
           rfl
          refine pure_ (i:=44) (N:=some 99) (v:=?_) (a':=?_) #[true,true,true,true,true,true,true,true,true,true,true,true,true,true,true,true,true,true,true,true,true,true,true,true,true,true,true,true,true,true,true,true,true,true,true,true,true,true,true,true,true,true,true,true,true,false,false,false] rfl rfl (any_of HT_.out (by kernel_rfl)) (fun _ _ _ h=>h) (Or.inl ⟨by rfl,?_⟩) ?_ ?_
          rotate_left
          ·intro w'
           go_simp
           with_reducible rfl
          rotate_left
          ·simp only [Act.put,List.setIfInBounds_toArray,List.set_cons_zero,List.set_cons_succ,i64_w,i32_w]
           rfl
          refine one_ (i:=45) (N:=some 100) #[true,true,true,true,true,true,true,true,true,true,true,true,true,true,true,true,true,true,true,true,true,true,true,true,true,true,true,true,true,true,true,true,true,true,true,true,true,true,true,true,true,true,true,true,true,true,false,false] rfl rfl (one_of HT_.out (by kernel_rfl)) (by decide) (fun K hK=>?_)
          refine goes_ Try.func28 (by kernel_rfl) rfl #[] (by rfl) rfl rfl oF ?_
          with_reducible refine (q18.calls kj11  t155 _ A47.out).mono ?_
          rintro e w74 ⟨rfl,hb⟩
          refine ⟨_,rfl,?_⟩
          have n0_:=zk (Kd.R_below (rq HO_114000.out) hb)
          have n1_:=zk (Kd.R_below (rq HO_114001.out) hb)
          have n2_:=zk (Kd.R_below (rq HO_115000.out) hb)
          have n3_:=zk (Kd.R_below (rq HO_115001.out) hb)
          have n4_:=zk (Kd.R_below (rq HO122.out) hb)
          have n5_:=zk (Kd.R_below (rq HO125.out) hb)
          have n6_:=zk (Kd.R_below (rq HO128.out) hb)
          have n7_:=zk (Kd.R_below (rq HO131.out) hb)
          have n8_:=zk (Kd.R_below (rq HO135.out) hb)
          have n9_:=zk (Kd.R_below (rq HO138.out) hb)
          have n10_:=zk (Kd.R_below (rq HO142.out) hb)
          have n11_:=zk (Kd.R_below (rq HO145.out) hb)
          have n12_:=zk (Kd.R_below (rq HO149.out) hb)
          have n13_:=zk (Kd.R_below (rq HO152.out) hb)
          have n14_:=zk (blk_below (g:=gb113) (o:=.cells #[.slice Ao16 t101.length co16,.slice Ao19 t104.length co19] 24 (0,0)) (hq BK113.out) hb)
          have n15_:=zk (blk_below (g:=gb114) (o:=.cells #[.slice (some ad118) t107.length co20,.slice Ao22 t110.length co22] 25 (0,0)) (hq BK114.out) hb)
          have n16_:=zk (below_step (bg HB.out GE113 GE114) hb)
          clear HO_114000
          clear HO_114001
          clear HO_115000
          clear HO_115001
          clear HO122
          clear HO125
          clear HO128
          clear HO131
          clear HO135
          clear HO138
          clear HO142
          clear HO145
          clear HO149
          clear HO152
          clear BK113
          clear BK114
          clear HB
          have HO_114000:=n0_
          have HO_114001:=n1_
          have HO_115000:=n2_
          have HO_115001:=n3_
          have HO122:=n4_
          have HO125:=n5_
          have HO128:=n6_
          have HO131:=n7_
          have HO135:=n8_
          have HO138:=n9_
          have HO142:=n10_
          have HO145:=n11_
          have HO149:=n12_
          have HO152:=n13_
          have BK113:=n14_
          have BK114:=n15_
          have HB:=n16_
          clear n0_ n1_ n2_ n3_ n4_ n5_ n6_ n7_ n8_ n9_ n10_ n11_ n12_ n13_ n14_ n15_ n16_
          (try clear hb)
          (try clear hb2)
          (try clear hk)
          (try clear hi)
          refine hK.out _ _ ⟨(blk_cell BK113.out 0).trans rfl,(blk_cell BK113.out 1).trans rfl,(blk_cell BK114.out 0).trans rfl,(blk_cell BK114.out 1).trans rfl⟩ (fun hHeld=>?_)
          clear hK K
          refine norm_ (a':=?_) ?_ ?_
          rotate_left
          ·show Act.put _ (some 100) _ = _
           simp only [Act.put,List.setIfInBounds_toArray,List.set_cons_zero,List.set_cons_succ,i64_w,i32_w]
           rfl
          refine pure_ (i:=46) (N:=some 101) (v:=?_) (a':=?_) #[true,true,true,true,true,true,true,true,true,true,true,true,true,true,true,true,true,true,true,true,true,true,true,true,true,true,true,true,true,true,true,true,true,true,true,true,true,true,true,true,true,true,true,true,true,true,true,false] rfl rfl (any_of HT_.out (by kernel_rfl)) (fun _ _ _ h=>h) (Or.inl ⟨by rfl,?_⟩) ?_ ?_
          rotate_left
          ·intro w'
           go_simp
           with_reducible rfl
          rotate_left
          ·simp only [Act.put,List.setIfInBounds_toArray,List.set_cons_zero,List.set_cons_succ,i64_w,i32_w]
           rfl
          refine pure_ (i:=47) (N:=some 10) (v:=?_) (a':=?_) #[true,true,true,true,true,true,true,true,true,true,true,true,true,true,true,true,true,true,true,true,true,true,true,true,true,true,true,true,true,true,true,true,true,true,true,true,true,true,true,true,true,true,true,true,true,true,true,true] rfl rfl (any_of HT_.out (by kernel_rfl)) (fun _ _ _ h=>h) (Or.inl ⟨by rfl,?_⟩) ?_ ?_
          rotate_left
          ·intro w'
           go_simp
           with_reducible rfl
          rotate_left
          ·simp only [Act.put,List.setIfInBounds_toArray,List.set_cons_zero,List.set_cons_succ,i64_w,i32_w]
           rfl
          refine done_ (done_of HT_.out (by kernel_rfl)) ?_
          try go_wp2
          go_ret
          exact ⟨by first|rfl|(simp [errW_none,errW_some] <;> rfl)|(simp [*,errW_none,errW_some] <;> rfl),bg HB.out GE113 GE114⟩
         ·replace c46:=Bool.eq_false_iff.mpr c46
          subst c46
          have H1:(some false) = some r:=by rw [if_neg (show ¬ (false = true) by decide)] at H;exact H
          clear H
          have H:=H1
          clear H1
          exact absurd (H.trans (congrArg some hrt_.out)) (by simp)
        ·replace c44:=Bool.eq_false_iff.mpr c44
         subst c44
         have H1:(some false) = some r:=by rw [if_neg (show ¬ (false = true) by decide)] at H;exact H
         clear H
         have H:=H1
         clear H1
         exact absurd (H.trans (congrArg some hrt_.out)) (by simp)
       ·replace c40:=Bool.eq_false_iff.mpr c40
        subst c40
        have H1:(some false) = some r:=by rw [if_neg (show ¬ (false = true) by decide)] at H;exact H
        clear H
        have H:=H1
        clear H1
        exact absurd (H.trans (congrArg some hrt_.out)) (by simp)
      ·replace c36:=Bool.eq_false_iff.mpr c36
       subst c36
       have H1:(some false) = some r:=by rw [if_neg (show ¬ (false = true) by decide)] at H;exact H
       clear H
       have H:=H1
       clear H1
       exact absurd (H.trans (congrArg some hrt_.out)) (by simp)
     ·replace c32:=Bool.eq_false_iff.mpr c32
      subst c32
      have H1:(some false) = some r:=by rw [if_neg (show ¬ (false = true) by decide)] at H;exact H
      clear H
      have H:=H1
      clear H1
      exact absurd (H.trans (congrArg some hrt_.out)) (by simp)
  ·rw [if_neg c11] at H
   exact absurd H (by simp)
 ·rw [if_neg c10] at H
  exact absurd H (by simp)
end Go.Proofs.Ytnomeokicfpidaa.Q
