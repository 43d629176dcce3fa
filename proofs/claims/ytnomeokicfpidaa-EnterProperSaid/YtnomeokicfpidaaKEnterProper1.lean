-- merged and slimmed by slim.py (a program of this repo)
import Derived.Test.YtnomeokicfpidaaKEnterProper0
namespace Go.Proofs.Ytnomeokicfpidaa.Q
open Go.RowKit Go.Proofs.YtnomeokicfpidaaW.PrintWords Go.Proofs.YtnomeokicfpidaaW.PrintLast Go.Proofs.YtnomeokicfpidaaW.PrintMore
attribute [local go_sem] max2_int min2_int max_two min_two max_three min_three max_four min_four
set_option linter.unusedVariables false
set_option linter.unusedSimpArgs false
mutual
def q14.l0:Nat → List Int → List Int → List Int → Int → Option (List Int × List Int × List Int × List Int)
 | 0,_,_,_,_=>none
 | k + 1,x0,x4,x5,x6=>if x6 < (x0.length:Int) then (q14.j1 k x0 x4 x5 x6 (decide (x6 < 12))) else (q14.j1 k x0 x4 x5 x6 false)
def q14.j1:Nat → List Int → List Int → List Int → Int → Bool → Option (List Int × List Int × List Int × List Int)
 | 0,_,_,_,_,_=>none
 | k + 1,x0,x4,x5,x6,x20=>if x20 = true then (if 0 ≤ x6 then (if x6 < (x0.length:Int) then ((q11.f (rd x0 x6) (wrap64 (x6 + 1))).bind fun t110=>(if (wrap64 (t110 - 1)) ≥ 0 then (if 0 ≤ (wrap64 (t110 - 1)) then (if (wrap64 (t110 - 1)) < (x4.length:Int) then (q14.j2 k x0 x4 x5 x6 (wrap64 (t110 - 1)) (decide ((rd x4 (wrap64 (t110 - 1))) ≥ 3))) else (none)) else (none)) else (q14.j2 k x0 x4 x5 x6 (wrap64 (t110 - 1)) false))) else (none)) else (none)) else (if (x0.length:Int) > 0 then (if 0 < (x0.length:Int) then (q14.j7 k x4 x5 ((Int.tmod (rd x0 0) 3) == 0)) else (none)) else (q14.j7 k x4 x5 false))
def q14.j2:Nat → List Int → List Int → List Int → Int → Int → Bool → Option (List Int × List Int × List Int × List Int)
 | 0,_,_,_,_,_,_=>none
 | k + 1,x0,x4,x5,x6,x7,x39=>if x39 = true then (q14.j3 k x0 x4 x5 x6 (-1)) else (q14.j3 k x0 x4 x5 x6 x7)
def q14.j3:Nat → List Int → List Int → List Int → Int → Int → Option (List Int × List Int × List Int × List Int)
 | 0,_,_,_,_,_=>none
 | k + 1,x0,x4,x5,x6,x7=>if 0 ≤ x6 then (if x6 < (x0.length:Int) then ((q11.f (wrap64 (Int.tdiv (rd x0 x6) 16)) 6).bind fun t113=>(if t113 = 0 then (q14.j4 k x0 x4 x5 x6 x7 1 t113 (t113 == 0)) else (q14.j4 k x0 x4 x5 x6 x7 1 t113 (t113 == 1)))) else (none)) else (none)
def q14.j4:Nat → List Int → List Int → List Int → Int → Int → Int → Int → Bool → Option (List Int × List Int × List Int × List Int)
 | 0,_,_,_,_,_,_,_,_=>none
 | k + 1,x0,x4,x5,x6,x7,x8,x45,x46=>if x46 = true then (if x4.length < 17592186044416 then (if x5.length < 17592186044416 then (q14.l0 k x0 (x4 ++ [2]) (x5 ++ [x7]) (wrap64 (x6 + 1))) else (none)) else (none)) else (if x45 = 2 then (q14.j5 k x0 x4 x5 x6 x7 x8 (x45 == 2)) else (q14.j5 k x0 x4 x5 x6 x7 x8 (x45 == 3)))
def q14.j5:Nat → List Int → List Int → List Int → Int → Int → Int → Bool → Option (List Int × List Int × List Int × List Int)
 | 0,_,_,_,_,_,_,_=>none
 | k + 1,x0,x4,x5,x6,x7,x8,x49=>if x49 = true then (q14.l1 k x0 x4 x5 x6 x7 x8 (x5.length:Int) 0) else (if x4.length < 17592186044416 then (if x5.length < 17592186044416 then (q14.l0 k x0 (x4 ++ [x8]) (x5 ++ [x7]) (wrap64 (x6 + 1))) else (none)) else (none))
def q14.l1:Nat → List Int → List Int → List Int → Int → Int → Int → Int → Int → Option (List Int × List Int × List Int × List Int)
 | 0,_,_,_,_,_,_,_,_=>none
 | k + 1,x0,x4,x5,x6,x7,x8,x53,x54=>if x54 < x53 then (if 0 ≤ x54 then (if x54 < (x5.length:Int) then (if (rd x5 x54) = x7 then (if x54 < (x4.length:Int) then (if (rd x4 x54) ≤ 2 then (if x7 ≥ 0 then (if 0 ≤ x7 then (if x7 < (x4.length:Int) then (if (rd x4 x7) = 1 then (if 0 ≤ x6 then (if x6 < (x0.length:Int) then ((q11.f (wrap64 (Int.tdiv (rd x0 x6) 96)) 2).bind fun t124=>(q14.l1 k x0 x4 x5 x6 x7 (wrap64 (3 + t124)) x53 (wrap64 (x54 + 1)))) else (none)) else (none)) else (q14.l1 k x0 x4 x5 x6 x7 x8 x53 (wrap64 (x54 + 1)))) else (none)) else (none)) else (q14.l1 k x0 x4 x5 x6 x7 x8 x53 (wrap64 (x54 + 1)))) else (q14.l1 k x0 x4 x5 x6 x7 x8 x53 (wrap64 (x54 + 1)))) else (none)) else (q14.l1 k x0 x4 x5 x6 x7 x8 x53 (wrap64 (x54 + 1)))) else (none)) else (none)) else (if x4.length < 17592186044416 then (if x5.length < 17592186044416 then (q14.l0 k x0 (x4 ++ [x8]) (x5 ++ [x7]) (wrap64 (x6 + 1))) else (none)) else (none))
def q14.j7:Nat → List Int → List Int → Bool → Option (List Int × List Int × List Int × List Int)
 | 0,_,_,_=>none
 | k + 1,x4,x5,x106=>if x106 = true then (if 0 < (x4.length:Int) then (q14.l2 k (x4.set (0:Int).toNat 2) x5 (x5.length:Int) 0) else (none)) else ((q6.f x4).bind fun t148=>((q6.f x5).bind fun t151=>(some (x4,x5,t148,t151))))
def q14.l2:Nat → List Int → List Int → Int → Int → Option (List Int × List Int × List Int × List Int)
 | 0,_,_,_,_=>none
 | k + 1,x4,x5,x110,x111=>if x111 < x110 then (if 0 ≤ x111 then (if x111 < (x5.length:Int) then (if (rd x5 x111) = 0 then (if x111 < (x4.length:Int) then (if (rd x4 x111) ≥ 3 then (q14.l2 k (x4.set (x111:Int).toNat 1) x5 x110 (wrap64 (x111 + 1))) else (q14.l2 k x4 x5 x110 (wrap64 (x111 + 1)))) else (none)) else (q14.l2 k x4 x5 x110 (wrap64 (x111 + 1)))) else (none)) else (none)) else ((q6.f x4).bind fun t142=>((q6.f x5).bind fun t145=>(some (x4,x5,t142,t145))))
end
def q14.f (k:Nat) (l0:List Int):Option (List Int × List Int × List Int × List Int):=q14.l0 k l0 (([1]:List Int)) (([(-1)]:List Int)) 1
set_option maxHeartbeats 8000000 in
set_option maxRecDepth 100000 in
theorem q14.calls (k:Nat) (A0:Option Addr) (c0:Nat) (l0:List Int) (r1:List Int) (r2:List Int) (r3:List Int) (r4:List Int) (w:World) (hr0:Kd.C (Kd.int .i64) w A0 l0.length l0) (hc0:l0.length ≤ c0) (h:q14.f k l0 = some (r1,r2,r3,r4)) :
  Calls Try.prog 13 #[.slice A0 l0.length c0] w fun e w'=>∃ v0_ v1_ v2_ v3_:Value,e = .returned (.tuple #[.agg #[v0_,v1_],.agg #[v2_,v3_]]) ∧ Kd.R (Kd.int .i64) 3 w' w.heap.size (fun k_=>some k_ ≠ (v1_:Value).ownBlock ∧ some k_ ≠ (v2_:Value).ownBlock ∧ some k_ ≠ (v3_:Value).ownBlock) v0_ r1 ∧ Kd.R (Kd.int .i64) 3 w' w.heap.size (fun k_=>some k_ ≠ (v0_:Value).ownBlock ∧ some k_ ≠ (v2_:Value).ownBlock ∧ some k_ ≠ (v3_:Value).ownBlock) v1_ r2 ∧ Kd.R (Kd.int .i64) 3 w' w.heap.size (fun k_=>some k_ ≠ (v0_:Value).ownBlock ∧ some k_ ≠ (v1_:Value).ownBlock ∧ some k_ ≠ (v3_:Value).ownBlock) v2_ r3 ∧ Kd.R (Kd.int .i64) 3 w' w.heap.size (fun k_=>some k_ ≠ (v0_:Value).ownBlock ∧ some k_ ≠ (v1_:Value).ownBlock ∧ some k_ ≠ (v2_:Value).ownBlock) v3_ r4 ∧ Below w.heap.size w w':=by
 have hu24:=Try.underlying24
 have hu25:=Try.underlying25
 have HR0:=Aside0.mk hr0
 have HC0:=Aside0.mk hc0
 clear hr0 hc0
 have HB:=zk (Below.refl w.heap.size w)
 have H:(q14.l0 k l0 (([1]:List Int)) (([(-1)]:List Int)) 1) = some (r1,r2,r3,r4):=h
 clear h
 obtain ⟨y103,hy103⟩:∃ y_:List Int,y_ = (([1]:List Int)):=⟨_,rfl⟩
 replace H:(q14.l0 k l0 y103 (([(-1)]:List Int)) 1) = some (r1,r2,r3,r4):=by first|(rw [hy103];with_reducible exact H)|(have H2_:=(Option.bind_some _ _).symm.trans H;rw [hy103];with_reducible exact H2_)|(have H2_:=(Option.bind_some _ _).symm.trans H;with_reducible exact H2_)|with_reducible exact H|(rw [hy103];exact H)|exact H
 have Ny103:=Aside0.mk hy103
 clear hy103
 obtain ⟨y106,hy106⟩:∃ y_:List Int,y_ = (([(-1)]:List Int)):=⟨_,rfl⟩
 replace H:(q14.l0 k l0 y103 y106 1) = some (r1,r2,r3,r4):=by first|(rw [hy106];with_reducible exact H)|(have H2_:=(Option.bind_some _ _).symm.trans H;rw [hy106];with_reducible exact H2_)|(have H2_:=(Option.bind_some _ _).symm.trans H;with_reducible exact H2_)|with_reducible exact H|(rw [hy106];exact H)|exact H
 have Ny106:=Aside0.mk hy106
 clear hy106
 have H':=Aside0.mk H
 clear H
 go_enter Try.func13,Try.ntmps13
 go_wp2_with (first|((with_reducible refine gate_dst (N:=2) rfl ?_);refine box_event ?hg (N:=2) ?hd (cs:=#[.slice none 0 0,.slice none 0 0]) (t:=24) ?hr ?_;(case hd=>rfl);(case hg=>rfl);(case hr=>first|(go_simp;done)|(go_simp;rfl));intro gb101 hg w2 hbox hb;have n0_:=zk (below_step (bq HB.out) hb);have n1_:=zk (hbox);have n2_:=zk ((by rw [hg];exact (below_size (bq HB.out)):w.heap.size ≤ gb101));have n3_:=zk ((by rw [hg];exact (below_size (bq HB.out)):w.heap.size ≤ gb101));clear HB;have HB:=n0_;have BK101:=n1_;have GW101:=n2_;have GE101:=n3_;clear n0_ n1_ n2_ n3_;clear hb hbox hg)|((with_reducible refine gate_dst (N:=3) rfl ?_);refine box_event ?hg (N:=3) ?hd (cs:=#[.slice none 0 0,.slice none 0 0]) (t:=25) ?hr ?_;(case hd=>rfl);(case hg=>rfl);(case hr=>first|(go_simp;done)|(go_simp;rfl));intro gb102 hg w3 hbox hb;have n0_:=zk (blk_below (g:=gb101) (o:=.cells #[.slice none 0 0,.slice none 0 0] 24 (0,0)) (hq BK101.out) hb);have n1_:=zk (below_step (bg HB.out GE101 GE101) hb);have n2_:=zk (hbox);have n3_:=zk ((by rw [hg];exact (below_size (bg HB.out GE101 GE101)):w.heap.size ≤ gb102));have n4_:=zk ((by rw [hg];exact (below_size (bg HB.out GE101 GE101)):w.heap.size ≤ gb102));have n5_:=zk ((by rw [hg];exact Nat.ne_of_lt (blk_lt (g:=gb101) (o:=.cells #[.slice none 0 0,.slice none 0 0] 24 (0,0)) (hq BK101.out)):gb101 ≠ gb102));have n6_:=zk ((by rw [hg];exact Nat.ne_of_gt (blk_lt (g:=gb101) (o:=.cells #[.slice none 0 0,.slice none 0 0] 24 (0,0)) (hq BK101.out)):gb102 ≠ gb101));clear BK101;clear HB;have BK101:=n0_;have HB:=n1_;have BK102:=n2_;have GW102:=n3_;have GE102:=n4_;have NB101_102:=n5_;have NB102_101:=n6_;clear n0_ n1_ n2_ n3_ n4_ n5_ n6_;clear hb hbox hg)|((with_reducible refine gate_dst (N:=11) rfl ?_);refine Kd.R_lit (Kd.int .i64) _ 3 ?hg (N:=11) ?hd (xs:=([1]:List Int)) (inner:=[.int .i64 1]) (ok:=fun _=>True) (okp:=fun _=>True) ?hr ?hp (fun _ hk=>hk) trivial (Below.refl _ _) (Nat.le_refl _) (by simp) ?_;(case hd=>rfl);(case hg=>rfl);(case hr=>first|(go_simp;done)|(go_simp;rfl));(case hp=>exact (Reps.one (show Kd.M (Kd.int .i64) _ _ _ 1 [.int .i64 1] from rfl) (Reps.none _ _)));intro v104 w4 ho5 hb hg_ hnew_;clear hg_ hnew_;(first|rw [← Ny103.out] at ho5|(simp only [Int.reduceToNat] at ho5;rw [← Ny103.out] at ho5));have n0_:=zk (Kd.R_lower ho5 (below_size (bg HB.out GE101 GE102)));have n1_:=zk (blk_below (g:=gb101) (o:=.cells #[.slice none 0 0,.slice none 0 0] 24 (0,0)) (hq BK101.out) hb);have n2_:=zk (blk_below (g:=gb102) (o:=.cells #[.slice none 0 0,.slice none 0 0] 25 (0,0)) (hq BK102.out) hb);have n3_:=zk (below_step (bg HB.out GE101 GE102) hb);clear BK101;clear BK102;clear HB;have HO105:=n0_;have BK101:=n1_;have BK102:=n2_;have HB:=n3_;clear n0_ n1_ n2_ n3_;clear hb ho5)|((with_reducible refine gate_dst (N:=12) rfl ?_);refine Kd.R_lit (Kd.int .i64) _ 3 ?hg (N:=12) ?hd (xs:=([(-1)]:List Int)) (inner:=[.int .i64 (-1)]) (ok:=fun _=>True) (okp:=fun _=>True) ?hr ?hp (fun _ hk=>hk) trivial (Below.refl _ _) (Nat.le_refl _) (by simp) ?_;(case hd=>rfl);(case hg=>rfl);(case hr=>first|(go_simp;done)|(go_simp;rfl));(case hp=>exact (Reps.one (show Kd.M (Kd.int .i64) _ _ _ (-1) [.int .i64 (-1)] from rfl) (Reps.none _ _)));intro v107 w6 ho7 hb hg_ hnew_;clear hg_ hnew_;(first|rw [← Ny106.out] at ho7|(simp only [Int.reduceToNat] at ho7;rw [← Ny106.out] at ho7));have n0_:=zk (Kd.R_elder' (rq HO105.out) (Kd.R_base ho7) hb);have n1_:=zk (Kd.R_lower (Kd.R_new' ho7 (Kd.R_lt (rq HO105.out))) (below_size (bg HB.out GE101 GE102)));have n2_:=zk (blk_below (g:=gb101) (o:=.cells #[.slice none 0 0,.slice none 0 0] 24 (0,0)) (hq BK101.out) hb);have n3_:=zk (blk_below (g:=gb102) (o:=.cells #[.slice none 0 0,.slice none 0 0] 25 (0,0)) (hq BK102.out) hb);have n4_:=zk (below_step (bg HB.out GE101 GE102) hb);clear HO105;clear BK101;clear BK102;clear HB;have HO105:=n0_;have HO108:=n1_;have BK101:=n2_;have BK102:=n3_;have HB:=n4_;clear n0_ n1_ n2_ n3_ n4_;clear hb ho7))
 go_loopg [4,5,6] k (fun kq v4 v5 v6 w'=>∃ (x4_1:List Int) (x5_1:List Int) (x6_1:Int),v6 = .int .i64 x6_1 ∧ Aside0 (q14.l0 kq l0 x4_1 x5_1 x6_1 = some (r1,r2,r3,r4)) ∧ Aside0 (kq ≤ k) ∧ Aside0 (Kd.R (Kd.int .i64) 3 w' w.heap.size (fun k_=>some k_ ≠ (v5:Value).ownBlock) v4 x4_1) ∧ Aside0 (Kd.R (Kd.int .i64) 3 w' w.heap.size (fun k_=>some k_ ≠ (v4:Value).ownBlock) v5 x5_1) ∧ Aside0 (w'.heap[gb101]? = some (.cells #[(.slice none 0 0),(.slice none 0 0)] 24 (0,0))) ∧ Aside0 (w'.heap[gb102]? = some (.cells #[(.slice none 0 0),(.slice none 0 0)] 25 (0,0))) ∧ Aside0 (Below w.heap.size w w'))
 case atStart=>exact ⟨(y103),(y106),(1),oE,H',⟨Nat.le_refl _⟩,⟨rq (Kd.R_mono HO105.out (fun _ hk=>hk.2))⟩,⟨rq (Kd.R_mono HO108.out (fun _ hk=>hk.2))⟩,⟨hq BK101.out⟩,⟨hq BK102.out⟩,⟨bg HB.out GE101 GE102⟩⟩
 case round =>
  clear H'
  try clear c1
  try clear p2
  obtain ⟨x4_1,x5_1,x6_1,rfl,HA,HK1,HO_4,HO_5,BK101,BK102,HB⟩:=hrel
  cases gk with
  | zero=>exact absurd HA.out (by simp [q14.l0])
  | succ k1 =>
   have H:=HA.out
   clear HA
   simp only [q14.l0] at H
   have HC8:=Aside0.mk H
   clear H
   go_upto_region 3 with (fail)
   go_cut [20] (fun v20 wc=>∃ (kq:Nat) (x20_7:Bool),v20 = .bool x20_7 ∧ Aside0 (q14.j1 kq l0 x4_1 x5_1 x6_1 x20_7 = some (r1,r2,r3,r4)) ∧ Aside0 (kq ≤ k1) ∧ Aside0 (Kd.R (Kd.int .i64) 3 wc w.heap.size (fun k_=>some k_ ≠ (u5:Value).ownBlock) u4 x4_1) ∧ Aside0 (Kd.R (Kd.int .i64) 3 wc w.heap.size (fun k_=>some k_ ≠ (u4:Value).ownBlock) u5 x5_1) ∧ Aside0 (wc.heap[gb101]? = some (.cells #[(.slice none 0 0),(.slice none 0 0)] 24 (0,0))) ∧ Aside0 (wc.heap[gb102]? = some (.cells #[(.slice none 0 0),(.slice none 0 0)] 25 (0,0))) ∧ Aside0 (Below w.heap.size w wc))
   case first =>
    have H:=HC8.out
    clear HC8
    by_cases c9:x6_1 < (l0.length:Int)
    ·rw [if_pos c9] at H
     have c9b0:decide (x6_1 < (l0.length:Int)) = true:=decide_eq_true c9
     clear c9
     (first|rw [c9b0]|(simp only [i64_w,i32_w];rw [c9b0])|skip)
     have H':=Aside0.mk H
     clear H
     go_wp2
     go_meet
     case rel=>exact ⟨_,(decide (x6_1 < 12)),oE,H',⟨by have:=HK1.out;first|omega|exact Nat.le_refl _⟩,⟨rq HO_4.out⟩,⟨rq HO_5.out⟩,⟨hq BK101.out⟩,⟨hq BK102.out⟩,⟨bg HB.out GE101 GE102⟩⟩
    ·rw [if_neg c9] at H
     have c9b0:decide (x6_1 < (l0.length:Int)) = false:=decide_eq_false c9
     clear c9
     (first|rw [c9b0]|(simp only [i64_w,i32_w];rw [c9b0])|skip)
     have H':=Aside0.mk H
     clear H
     go_wp2
     go_meet
     case rel=>exact ⟨_,(false),oE,H',⟨by have:=HK1.out;first|omega|exact Nat.le_refl _⟩,⟨rq HO_4.out⟩,⟨rq HO_5.out⟩,⟨hq BK101.out⟩,⟨hq BK102.out⟩,⟨bg HB.out GE101 GE102⟩⟩
   case rest =>
    clear HC8
    try clear c1
    try clear p2
    try clear c9
    try clear c9b0
    try clear p2
    obtain ⟨kq,x20_7,rfl,HA,HJ7,HO_4,HO_5,BK101,BK102,HB⟩:=hcut
    cases kq with
    | zero=>exact absurd HA.out (by simp [q14.j1])
    | succ kj7 =>
     have H:=HA.out
     clear HA
     simp only [q14.j1] at H
     by_cases c10:x20_7 = true
     ·subst c10
      have H1:(if 0 ≤ x6_1 then (if x6_1 < (l0.length:Int) then ((q11.f (rd l0 x6_1) (wrap64 (x6_1 + 1))).bind fun t110=>(if (wrap64 (t110 - 1)) ≥ 0 then (if 0 ≤ (wrap64 (t110 - 1)) then (if (wrap64 (t110 - 1)) < (x4_1.length:Int) then (q14.j2 kj7 l0 x4_1 x5_1 x6_1 (wrap64 (t110 - 1)) (decide ((rd x4_1 (wrap64 (t110 - 1))) ≥ 3))) else (none)) else (none)) else (q14.j2 kj7 l0 x4_1 x5_1 x6_1 (wrap64 (t110 - 1)) false))) else (none)) else (none)) = some (r1,r2,r3,r4):=by rw [if_pos rfl] at H;exact H
      clear H
      have H:=H1
      clear H1
      by_cases c11:0 ≤ x6_1
      ·rw [if_pos c11] at H
       have c11b0:decide (0 ≤ x6_1) = true:=decide_eq_true c11
       clear c11
       by_cases c12:x6_1 < (l0.length:Int)
       ·rw [if_pos c12] at H
        have c12b0:decide (x6_1 < (l0.length:Int)) = true:=decide_eq_true c12
        clear c12
        replace H:=Option.bind_eq_some_iff.mp H
        obtain ⟨t110,A130,H⟩:=H
        replace H:(if (wrap64 (t110 - 1)) ≥ 0 then (if 0 ≤ (wrap64 (t110 - 1)) then (if (wrap64 (t110 - 1)) < (x4_1.length:Int) then (q14.j2 kj7 l0 x4_1 x5_1 x6_1 (wrap64 (t110 - 1)) (decide ((rd x4_1 (wrap64 (t110 - 1))) ≥ 3))) else (none)) else (none)) else (q14.j2 kj7 l0 x4_1 x5_1 x6_1 (wrap64 (t110 - 1)) false)) = some (r1,r2,r3,r4):=H
        have A13:=Aside0.mk A130
        clear A130
        have HC14:=Aside0.mk H
        clear H
        have p109:0 ≤ (x6_1:Int):=oA
        have q109:x6_1 < (l0.length:Int):=oA
        obtain ⟨ad109,e109,hx109_0⟩:=Kd.at_int HR0.out x6_1 p109 q109
        cases e109
        replace hx109_0:=(HB.out.cell (World.block_lt_of_cell? w _ hx109_0)).trans hx109_0
        replace p109:=eq_true p109
        replace q109:=eq_true q109
        go_upto_region 6 with (first|((with_reducible refine gate_callee (f:=19) rfl ?_);refine goesL_ (some 29) rfl rfl Try.func19 (by kernel_rfl) rfl #[.int .i64 (rd l0 x6_1),.int .i64 (wrap64 (x6_1 + 1))] rfl oF ?_;(with_reducible refine (q11.calls (rd l0 x6_1) (wrap64 (x6_1 + 1)) t110 _ A13.out).mono ?_);rintro e w' ⟨rfl,⟨nd,rfl⟩⟩;refine ⟨_,rfl,?_⟩))
        (try simp only [Act.put,List.setIfInBounds_toArray,List.set_cons_zero,List.set_cons_succ])
        go_cut [39] (fun v39 wc=>∃ (kq:Nat) (x39_13:Bool),v39 = .bool x39_13 ∧ Aside0 (q14.j2 kq l0 x4_1 x5_1 x6_1 (wrap64 (t110 - 1)) x39_13 = some (r1,r2,r3,r4)) ∧ Aside0 (kq ≤ kj7) ∧ Aside0 (Kd.R (Kd.int .i64) 3 wc w.heap.size (fun k_=>some k_ ≠ (u5:Value).ownBlock) u4 x4_1) ∧ Aside0 (Kd.R (Kd.int .i64) 3 wc w.heap.size (fun k_=>some k_ ≠ (u4:Value).ownBlock) u5 x5_1) ∧ Aside0 (wc.heap[gb101]? = some (.cells #[(.slice none 0 0),(.slice none 0 0)] 24 (0,0))) ∧ Aside0 (wc.heap[gb102]? = some (.cells #[(.slice none 0 0),(.slice none 0 0)] 25 (0,0))) ∧ Aside0 (Below w.heap.size w wc))
        case first =>
         have H:=HC14.out
         clear HC14
         by_cases c15:(wrap64 (t110 - 1)) ≥ 0
         ·rw [if_pos c15] at H
          have c15b0:decide (0 ≤ (wrap64 (t110 - 1))) = true:=decide_eq_true c15
          clear c15
          (first|rw [c15b0]|(simp only [i64_w,i32_w];rw [c15b0])|skip)
          obtain ⟨ji16,hji16⟩:∃ j_:Int,(wrap64 (t110 - 1)) = j_:=⟨_,rfl⟩
          replace H:(if 0 ≤ (ji16) then (if (ji16) < (x4_1.length:Int) then (q14.j2 kj7 l0 x4_1 x5_1 x6_1 ji16 (decide ((rd x4_1 (ji16)) ≥ 3))) else (none)) else (none)) = some (r1,r2,r3,r4):=by first|(rw [hji16] at H;exact H)|(simp only [hji16] at H ⊢;exact H)
          (try rw [hji16] at c15b0)
          have hji16w:(IntKind.i64.wrap (t110 - 1)) = ji16:=(i64_w _).trans hji16
          by_cases c17:0 ≤ (ji16)
          ·rw [if_pos c17] at H
           have c17b0:decide (0 ≤ (ji16)) = true:=decide_eq_true c17
           clear c17
           by_cases c18:(ji16) < (x4_1.length:Int)
           ·rw [if_pos c18] at H
            have c18b0:decide ((ji16) < (x4_1.length:Int)) = true:=decide_eq_true c18
            clear c18
            have H':=Aside0.mk H
            clear H
            obtain ⟨Ao19,co19,eo19⟩:=Kd.R_slice HO_4.out
            subst eo19
            have p111:0 ≤ ((ji16):Int):=oA
            have q111:(ji16) < (x4_1.length:Int):=oA
            obtain ⟨ad111,e111,hx111_0⟩:=Kd.at_int (Kd.R_reads' HO_4.out).2.2 (ji16) p111 q111
            cases e111
            replace p111:=eq_true p111
            replace q111:=eq_true q111
            go_wp2
            first|go_meet|(simp only [← hji16];go_meet)
            case rel=>exact ⟨_,(decide ((rd x4_1 (ji16)) ≥ 3)),(by first|rfl|(simp;done)|(simp only [← hji16] <;> (first|rfl|simp))|(simp [*];done)),(by first|exact H'|exact ⟨by simp only [hji16];exact H'.out⟩),⟨by have:=HK1.out;have:=HJ7.out;first|omega|exact Nat.le_refl _⟩,⟨rq HO_4.out⟩,⟨rq HO_5.out⟩,⟨hq BK101.out⟩,⟨hq BK102.out⟩,⟨bg HB.out GE101 GE102⟩⟩
           ·rw [if_neg c18] at H
            exact absurd H (by simp)
          ·rw [if_neg c17] at H
           exact absurd H (by simp)
         ·rw [if_neg c15] at H
          have c15b0:decide (0 ≤ (wrap64 (t110 - 1))) = false:=decide_eq_false c15
          clear c15
          (first|rw [c15b0]|(simp only [i64_w,i32_w];rw [c15b0])|skip)
          have H':=Aside0.mk H
          clear H
          go_wp2
          go_meet
          case rel=>exact ⟨_,(false),oE,H',⟨by have:=HK1.out;have:=HJ7.out;first|omega|exact Nat.le_refl _⟩,⟨rq HO_4.out⟩,⟨rq HO_5.out⟩,⟨hq BK101.out⟩,⟨hq BK102.out⟩,⟨bg HB.out GE101 GE102⟩⟩
        case rest =>
         clear HC14
         try clear c1
         try clear p1
         try clear q1
         try clear hx1
         try clear p2
         try clear p6
         try clear c9
         try clear c9b0
         try clear c10
         try clear p10
         try clear q10
         try clear hx10
         try clear c11
         try clear c11b0
         try clear p11
         try clear q11
         try clear hx11
         try clear c12
         try clear c12b0
         try clear c13
         try clear c15
         try clear c15b0
         try clear c17
         try clear c17b0
         try clear c18
         try clear c18b0
         try clear c19
         try clear hx109_0
         try clear hx111_0
         try clear p109
         try clear p111
         try clear p2
         try clear q109
         try clear q111
         obtain ⟨kq,x39_13,rfl,HA,HJ13,HO_4,HO_5,BK101,BK102,HB⟩:=hcut
         cases kq with
         | zero=>exact absurd HA.out (by simp [q14.j2])
         | succ kj13 =>
          have H:=HA.out
          clear HA
          simp only [q14.j2] at H
          have HC20:=Aside0.mk H
          clear H
          go_upto_if 39 with (fail)
          go_cut [7] (fun v7 wc=>∃ (kq:Nat) (x7_19:Int),v7 = .int .i64 x7_19 ∧ Aside0 (q14.j3 kq l0 x4_1 x5_1 x6_1 x7_19 = some (r1,r2,r3,r4)) ∧ Aside0 (kq ≤ kj13) ∧ Aside0 (Kd.R (Kd.int .i64) 3 wc w.heap.size (fun k_=>some k_ ≠ (u5:Value).ownBlock) u4 x4_1) ∧ Aside0 (Kd.R (Kd.int .i64) 3 wc w.heap.size (fun k_=>some k_ ≠ (u4:Value).ownBlock) u5 x5_1) ∧ Aside0 (wc.heap[gb101]? = some (.cells #[(.slice none 0 0),(.slice none 0 0)] 24 (0,0))) ∧ Aside0 (wc.heap[gb102]? = some (.cells #[(.slice none 0 0),(.slice none 0 0)] 25 (0,0))) ∧ Aside0 (Below w.heap.size w wc))
          case first =>
           have H:=HC20.out
           clear HC20
           by_cases c21:x39_13 = true
           ·subst c21
            have H1:(q14.j3 kj13 l0 x4_1 x5_1 x6_1 (-1)) = some (r1,r2,r3,r4):=by rw [if_pos rfl] at H;exact H
            clear H
            have H:=H1
            clear H1
            have H':=Aside0.mk H
            clear H
            go_wp2
            go_meet
            case rel=>exact ⟨_,((-1)),oE,H',⟨by have:=HK1.out;have:=HJ7.out;have:=HJ13.out;first|omega|exact Nat.le_refl _⟩,⟨rq HO_4.out⟩,⟨rq HO_5.out⟩,⟨hq BK101.out⟩,⟨hq BK102.out⟩,⟨bg HB.out GE101 GE102⟩⟩
           ·replace c21:=Bool.eq_false_iff.mpr c21
            subst c21
            have H1:(q14.j3 kj13 l0 x4_1 x5_1 x6_1 (wrap64 (t110 - 1))) = some (r1,r2,r3,r4):=by rw [if_neg (show ¬ (false = true) by decide)] at H;exact H
            clear H
            have H:=H1
            clear H1
            have H':=Aside0.mk H
            clear H
            go_wp2
            go_meet
            case rel=>exact ⟨_,((wrap64 (t110 - 1))),oE,H',⟨by have:=HK1.out;have:=HJ7.out;have:=HJ13.out;first|omega|exact Nat.le_refl _⟩,⟨rq HO_4.out⟩,⟨rq HO_5.out⟩,⟨hq BK101.out⟩,⟨hq BK102.out⟩,⟨bg HB.out GE101 GE102⟩⟩
          case rest =>
           clear HC20
           try clear c1
           try clear p1
           try clear q1
           try clear hx1
           try clear c2
           try clear p2
           try clear p6
           try clear c9
           try clear c9b0
           try clear c10
           try clear p10
           try clear q10
           try clear hx10
           try clear c11
           try clear c11b0
           try clear p11
           try clear q11
           try clear hx11
           try clear c12
           try clear c12b0
           try clear c13
           try clear c15
           try clear c15b0
           try clear c17
           try clear c17b0
           try clear c18
           try clear c18b0
           try clear c19
           try clear c21
           try clear hx109_0
           try clear hx111_0
           try clear p1
           try clear p10
           try clear p109
           try clear p11
           try clear p111
           try clear p2
           try clear p6
           try clear q1
           try clear q10
           try clear q109
           try clear q11
           try clear q111
           obtain ⟨kq,x7_19,rfl,HA,HJ19,HO_4,HO_5,BK101,BK102,HB⟩:=hcut
           cases kq with
           | zero=>exact absurd HA.out (by simp [q14.j3])
           | succ kj19 =>
            have H:=HA.out
            clear HA
            simp only [q14.j3] at H
            by_cases c22:0 ≤ x6_1
            ·rw [if_pos c22] at H
             have c22b0:decide (0 ≤ x6_1) = true:=decide_eq_true c22
             clear c22
             by_cases c23:x6_1 < (l0.length:Int)
             ·rw [if_pos c23] at H
              have c23b0:decide (x6_1 < (l0.length:Int)) = true:=decide_eq_true c23
              clear c23
              replace H:=Option.bind_eq_some_iff.mp H
              obtain ⟨t113,A240,H⟩:=H
              replace H:(if t113 = 0 then (q14.j4 kj19 l0 x4_1 x5_1 x6_1 x7_19 1 t113 (t113 == 0)) else (q14.j4 kj19 l0 x4_1 x5_1 x6_1 x7_19 1 t113 (t113 == 1))) = some (r1,r2,r3,r4):=H
              have A24:=Aside0.mk A240
              clear A240
              have HC25:=Aside0.mk H
              clear H
              have p112:0 ≤ (x6_1:Int):=oA
              have q112:x6_1 < (l0.length:Int):=oA
              obtain ⟨ad112,e112,hx112_0⟩:=Kd.at_int HR0.out x6_1 p112 q112
              obtain rfl:ad109 = ad112:=(by injection e112)
              replace hx112_0:=(HB.out.cell (World.block_lt_of_cell? w _ hx112_0)).trans hx112_0
              replace p112:=eq_true p112
              replace q112:=eq_true q112
              go_upto_if 46 with (first|((with_reducible refine gate_callee (f:=19) rfl ?_);refine goesL_ (some 45) rfl rfl Try.func19 (by kernel_rfl) rfl #[.int .i64 (wrap64 (Int.tdiv (rd l0 x6_1) 16)),.int .i64 6] rfl oF ?_;(with_reducible refine (q11.calls (wrap64 (Int.tdiv (rd l0 x6_1) 16)) 6 t113 _ A24.out).mono ?_);rintro e w' ⟨rfl,⟨nd,rfl⟩⟩;refine ⟨_,rfl,?_⟩))
              (try simp only [Act.put,List.setIfInBounds_toArray,List.set_cons_zero,List.set_cons_succ])
              go_cut [46] (fun v46 wc=>∃ (kq:Nat) (x46_24:Bool),v46 = .bool x46_24 ∧ Aside0 (q14.j4 kq l0 x4_1 x5_1 x6_1 x7_19 1 t113 x46_24 = some (r1,r2,r3,r4)) ∧ Aside0 (kq ≤ kj19) ∧ Aside0 (Kd.R (Kd.int .i64) 3 wc w.heap.size (fun k_=>some k_ ≠ (u5:Value).ownBlock) u4 x4_1) ∧ Aside0 (Kd.R (Kd.int .i64) 3 wc w.heap.size (fun k_=>some k_ ≠ (u4:Value).ownBlock) u5 x5_1) ∧ Aside0 (wc.heap[gb101]? = some (.cells #[(.slice none 0 0),(.slice none 0 0)] 24 (0,0))) ∧ Aside0 (wc.heap[gb102]? = some (.cells #[(.slice none 0 0),(.slice none 0 0)] 25 (0,0))) ∧ Aside0 (Below w.heap.size w wc))
              case first =>
               have H:=HC25.out
               clear HC25
               by_cases c26:t113 = 0
               ·rw [if_pos c26] at H
                have c26b0:(t113 == 0) = true:=beq_iff_eq.mpr c26
                have c26b1:(t113 != 0) = false:=bne_eq_false_iff_eq.mpr c26
                clear c26
                (first|rw [c26b0]|(simp only [i64_w,i32_w];rw [c26b0])|skip)
                have H':=Aside0.mk H
                clear H
                go_wp2
                go_meet
                case rel=>exact ⟨_,((t113 == 0)),oE,H',⟨by have:=HK1.out;have:=HJ7.out;have:=HJ13.out;have:=HJ19.out;first|omega|exact Nat.le_refl _⟩,⟨rq HO_4.out⟩,⟨rq HO_5.out⟩,⟨hq BK101.out⟩,⟨hq BK102.out⟩,⟨bg HB.out GE101 GE102⟩⟩
               ·rw [if_neg c26] at H
                have c26b0:(t113 == 0) = false:=beq_eq_false_iff_ne.mpr c26
                have c26b1:(t113 != 0) = true:=bne_iff_ne.mpr c26
                (first|rw [c26b0]|(simp only [i64_w,i32_w];rw [c26b0])|skip)
                have H':=Aside0.mk H
                clear H
                go_wp2
                go_meet
                case rel=>exact ⟨_,((t113 == 1)),oE,H',⟨by have:=HK1.out;have:=HJ7.out;have:=HJ13.out;have:=HJ19.out;first|omega|exact Nat.le_refl _⟩,⟨rq HO_4.out⟩,⟨rq HO_5.out⟩,⟨hq BK101.out⟩,⟨hq BK102.out⟩,⟨bg HB.out GE101 GE102⟩⟩
              case rest =>
               clear HC25
               try clear c1
               try clear p1
               try clear q1
               try clear hx1
               try clear c2
               try clear p2
               try clear p6
               try clear c9
               try clear c9b0
               try clear c10
               try clear p10
               try clear q10
               try clear hx10
               try clear c11
               try clear c11b0
               try clear p11
               try clear q11
               try clear hx11
               try clear c12
               try clear c12b0
               try clear c13
               try clear c15
               try clear c15b0
               try clear c17
               try clear c17b0
               try clear c18
               try clear c18b0
               try clear c19
               try clear c21
               try clear c22
               try clear c22b0
               try clear c23
               try clear c23b0
               try clear c26
               try clear c26b0
               try clear c26b1
               try clear hx109_0
               try clear hx111_0
               try clear hx112_0
               try clear p1
               try clear p10
               try clear p109
               try clear p11
               try clear p111
               try clear p112
               try clear p2
               try clear p6
               try clear q1
               try clear q10
               try clear q109
               try clear q11
               try clear q111
               try clear q112
               obtain ⟨kq,x46_24,rfl,HA,HJ24,HO_4,HO_5,BK101,BK102,HB⟩:=hcut
               cases kq with
               | zero=>exact absurd HA.out (by simp [q14.j4])
               | succ kj24 =>
                have H:=HA.out
                clear HA
                simp only [q14.j4] at H
                by_cases c27:x46_24 = true
                ·subst c27
                 have H1:(if x4_1.length < 17592186044416 then (if x5_1.length < 17592186044416 then (q14.l0 kj24 l0 (x4_1 ++ [2]) (x5_1 ++ [x7_19]) (wrap64 (x6_1 + 1))) else (none)) else (none)) = some (r1,r2,r3,r4):=by rw [if_pos rfl] at H;exact H
                 clear H
                 have H:=H1
                 clear H1
                 by_cases c28:x4_1.length < 17592186044416
                 ·rw [if_pos c28] at H
                  have LMc28:=Aside0.mk c28
                  clear c28
                  obtain ⟨y114,hy114⟩:∃ y_:List Int,y_ = (x4_1 ++ [2]):=⟨_,rfl⟩
                  replace H:(if x5_1.length < 17592186044416 then (q14.l0 kj24 l0 y114 (x5_1 ++ [x7_19]) (wrap64 (x6_1 + 1))) else (none)) = some (r1,r2,r3,r4):=by first|(rw [hy114];with_reducible exact H)|(have H2_:=(Option.bind_some _ _).symm.trans H;rw [hy114];with_reducible exact H2_)|(have H2_:=(Option.bind_some _ _).symm.trans H;with_reducible exact H2_)|with_reducible exact H|(rw [hy114];exact H)|exact H
                  have Ny114:=Aside0.mk hy114
                  clear hy114
                  by_cases c29:x5_1.length < 17592186044416
                  ·rw [if_pos c29] at H
                   have LMc29:=Aside0.mk c29
                   clear c29
                   obtain ⟨y117,hy117⟩:∃ y_:List Int,y_ = (x5_1 ++ [x7_19]):=⟨_,rfl⟩
                   replace H:(q14.l0 kj24 l0 y114 y117 (wrap64 (x6_1 + 1))) = some (r1,r2,r3,r4):=by first|(rw [hy117];with_reducible exact H)|(have H2_:=(Option.bind_some _ _).symm.trans H;rw [hy117];with_reducible exact H2_)|(have H2_:=(Option.bind_some _ _).symm.trans H;with_reducible exact H2_)|with_reducible exact H|(rw [hy117];exact H)|exact H
                   have Ny117:=Aside0.mk hy117
                   clear hy117
                   have H':=Aside0.mk H
                   clear H
                   go_wp2_with (first|((with_reducible refine gate_builtin (b:=.append) (xs:=#[.tmp 89,.tmp 91]) rfl ?_);at_builtin;refine Kd.R_append (Kd.int .i64) (w0:=w) w.heap.size rfl (.tmp 89) (.tmp 91) 22 3 (.int .i64 0) 8 rfl Try.underlying22 info3 rfl (by decide) (by omega) u4 x4_1 2 [.int .i64 2] (fun k_=>some k_ ≠ (u5:Value).ownBlock) (fun _=>False) rfl rfl ?aP (fun _ hk=>hk.elim) ?aF ?aO ?aB ?aS ?aL ?_;(case aP=>exact rfl);(case aB=>exact (bg HB.out GE101 GE102));(case aF=>exact (fun k_ hk=>Kd.fresh' (Kd.R_lt (rq HO_5.out)) k_ hk));(case aO=>exact (rq HO_4.out));(case aS=>exact (below_size (bg HB.out GE101 GE102)));(case aL=>have:=LMc28.out;omega);intro v115 w30 ho hb hg hat;rw [← Ny114.out] at ho;have n0_:=zk (Kd.R_after (ok:=(fun _=>True)) (rq (Kd.R_mono HO_5.out (fun _ hk=>⟨trivial,hk⟩))) hg hat);have n1_:=zk (blk_grown (g:=gb101) (o:=.cells #[.slice none 0 0,.slice none 0 0] 24 (0,0)) (hq BK101.out) hg (Kd.R_ne HO_4.out BK101.out (by decide)));have n2_:=zk (blk_grown (g:=gb102) (o:=.cells #[.slice none 0 0,.slice none 0 0] 25 (0,0)) (hq BK102.out) hg (Kd.R_ne HO_4.out BK102.out (by decide)));have n3_:=zk (hb);have n4_:=zk (ho);clear HO_5;clear BK101;clear BK102;clear HB;clear HO_4;have HO_5:=n0_;have BK101:=n1_;have BK102:=n2_;have HB:=n3_;have HO116:=n4_;clear n0_ n1_ n2_ n3_ n4_;clear ho hb hg hat)|((with_reducible refine gate_builtin (b:=.append) (xs:=#[.tmp 93,.tmp 95]) rfl ?_);at_builtin;refine Kd.R_append (Kd.int .i64) (w0:=w) w.heap.size rfl (.tmp 93) (.tmp 95) 22 3 (.int .i64 0) 8 rfl Try.underlying22 info3 rfl (by decide) (by omega) u5 x5_1 x7_19 [.int .i64 x7_19] (fun k_=>some k_ ≠ (v115:Value).ownBlock) (fun _=>False) rfl rfl ?aP (fun _ hk=>hk.elim) ?aF ?aO ?aB ?aS ?aL ?_;(case aP=>exact rfl);(case aB=>exact (bg HB.out GE101 GE102));(case aF=>exact (fun k_ hk=>Kd.fresh' (Kd.R_lt (rq HO116.out)) k_ hk));(case aO=>exact (rq (Kd.R_mono HO_5.out (fun _ hk=>hk.2))));(case aS=>exact (below_size (bg HB.out GE101 GE102)));(case aL=>have:=LMc29.out;omega);intro v118 w31 ho hb hg hat;rw [← Ny117.out] at ho;have n0_:=zk (blk_grown (g:=gb101) (o:=.cells #[.slice none 0 0,.slice none 0 0] 24 (0,0)) (hq BK101.out) hg (Kd.R_ne HO_5.out BK101.out (by decide)));have n1_:=zk (blk_grown (g:=gb102) (o:=.cells #[.slice none 0 0,.slice none 0 0] 25 (0,0)) (hq BK102.out) hg (Kd.R_ne HO_5.out BK102.out (by decide)));have n2_:=zk (Kd.R_after (ok:=(fun _=>True)) (rq (Kd.R_mono HO116.out (fun _ hk=>⟨trivial,hk⟩))) hg hat);have n3_:=zk (hb);have n4_:=zk (ho);clear BK101;clear BK102;clear HO116;clear HB;clear HO_5;have BK101:=n0_;have BK102:=n1_;have HO116:=n2_;have HB:=n3_;have HO119:=n4_;clear n0_ n1_ n2_ n3_ n4_;clear ho hb hg hat))
                   go_roundg kj24
                   case measure=>have:=HK1.out;have:=HJ7.out;have:=HJ13.out;have:=HJ19.out;have:=HJ24.out;omega
                   case rel=>exact ⟨(y114),(y117),(wrap64 (x6_1 + 1)),oE,H',⟨by have:=HK1.out;have:=HJ7.out;have:=HJ13.out;have:=HJ19.out;have:=HJ24.out;omega⟩,⟨rq (Kd.R_mono HO116.out (fun _ hk=>hk.2))⟩,⟨rq HO119.out⟩,⟨hq BK101.out⟩,⟨hq BK102.out⟩,⟨bg HB.out GE101 GE102⟩⟩
                  ·rw [if_neg c29] at H
                   exact absurd H (by simp)
                 ·rw [if_neg c28] at H
                  exact absurd H (by simp)
                ·replace c27:=Bool.eq_false_iff.mpr c27
                 subst c27
                 have H1:(if t113 = 2 then (q14.j5 kj24 l0 x4_1 x5_1 x6_1 x7_19 1 (t113 == 2)) else (q14.j5 kj24 l0 x4_1 x5_1 x6_1 x7_19 1 (t113 == 3))) = some (r1,r2,r3,r4):=by rw [if_neg (show ¬ (false = true) by decide)] at H;exact H
                 clear H
                 have H:=H1
                 clear H1
                 have HC32:=Aside0.mk H
                 clear H
                 go_upto_if 49 with (fail)
                 go_cut [49] (fun v49 wc=>∃ (kq:Nat) (x49_31:Bool),v49 = .bool x49_31 ∧ Aside0 (q14.j5 kq l0 x4_1 x5_1 x6_1 x7_19 1 x49_31 = some (r1,r2,r3,r4)) ∧ Aside0 (kq ≤ kj24) ∧ Aside0 (Kd.R (Kd.int .i64) 3 wc w.heap.size (fun k_=>some k_ ≠ (u5:Value).ownBlock) u4 x4_1) ∧ Aside0 (Kd.R (Kd.int .i64) 3 wc w.heap.size (fun k_=>some k_ ≠ (u4:Value).ownBlock) u5 x5_1) ∧ Aside0 (wc.heap[gb101]? = some (.cells #[(.slice none 0 0),(.slice none 0 0)] 24 (0,0))) ∧ Aside0 (wc.heap[gb102]? = some (.cells #[(.slice none 0 0),(.slice none 0 0)] 25 (0,0))) ∧ Aside0 (Below w.heap.size w wc))
                 case first =>
                  have H:=HC32.out
                  clear HC32
                  by_cases c33:t113 = 2
                  ·rw [if_pos c33] at H
                   have c33b0:(t113 == 2) = true:=beq_iff_eq.mpr c33
                   have c33b1:(t113 != 2) = false:=bne_eq_false_iff_eq.mpr c33
                   clear c33
                   (first|rw [c33b0]|(simp only [i64_w,i32_w];rw [c33b0])|skip)
                   have H':=Aside0.mk H
                   clear H
                   go_wp2
                   go_meet
                   case rel=>exact ⟨_,((t113 == 2)),oE,H',⟨by have:=HK1.out;have:=HJ7.out;have:=HJ13.out;have:=HJ19.out;have:=HJ24.out;first|omega|exact Nat.le_refl _⟩,⟨rq HO_4.out⟩,⟨rq HO_5.out⟩,⟨hq BK101.out⟩,⟨hq BK102.out⟩,⟨bg HB.out GE101 GE102⟩⟩
                  ·rw [if_neg c33] at H
                   have c33b0:(t113 == 2) = false:=beq_eq_false_iff_ne.mpr c33
                   have c33b1:(t113 != 2) = true:=bne_iff_ne.mpr c33
                   (first|rw [c33b0]|(simp only [i64_w,i32_w];rw [c33b0])|skip)
                   have H':=Aside0.mk H
                   clear H
                   go_wp2
                   go_meet
                   case rel=>exact ⟨_,((t113 == 3)),oE,H',⟨by have:=HK1.out;have:=HJ7.out;have:=HJ13.out;have:=HJ19.out;have:=HJ24.out;first|omega|exact Nat.le_refl _⟩,⟨rq HO_4.out⟩,⟨rq HO_5.out⟩,⟨hq BK101.out⟩,⟨hq BK102.out⟩,⟨bg HB.out GE101 GE102⟩⟩
                 case rest =>
                  clear HC32
                  try clear c1
                  try clear p1
                  try clear q1
                  try clear hx1
                  try clear c2
                  try clear p2
                  try clear c3
                  try clear p6
                  try clear c9
                  try clear c9b0
                  try clear c10
                  try clear p10
                  try clear q10
                  try clear hx10
                  try clear c11
                  try clear c11b0
                  try clear p11
                  try clear q11
                  try clear hx11
                  try clear c12
                  try clear c12b0
                  try clear c13
                  try clear c15
                  try clear c15b0
                  try clear c17
                  try clear c17b0
                  try clear c18
                  try clear c18b0
                  try clear c19
                  try clear c21
                  try clear c22
                  try clear c22b0
                  try clear c23
                  try clear c23b0
                  try clear c26
                  try clear c26b0
                  try clear c26b1
                  try clear c27
                  try clear c28
                  try clear c29
                  try clear c33
                  try clear c33b0
                  try clear c33b1
                  try clear hx109_0
                  try clear hx111_0
                  try clear hx112_0
                  try clear p1
                  try clear p10
                  try clear p109
                  try clear p11
                  try clear p111
                  try clear p112
                  try clear p2
                  try clear p6
                  try clear q1
                  try clear q10
                  try clear q109
                  try clear q11
                  try clear q111
                  try clear q112
                  obtain ⟨kq,x49_31,rfl,HA,HJ31,HO_4,HO_5,BK101,BK102,HB⟩:=hcut
                  cases kq with
                  | zero=>exact absurd HA.out (by simp [q14.j5])
                  | succ kj31 =>
                   have H:=HA.out
                   clear HA
                   simp only [q14.j5] at H
                   by_cases c34:x49_31 = true
                   ·subst c34
                    have H1:(q14.l1 kj31 l0 x4_1 x5_1 x6_1 x7_19 1 (x5_1.length:Int) 0) = some (r1,r2,r3,r4):=by rw [if_pos rfl] at H;exact H
                    clear H
                    have H:=H1
                    clear H1
                    have H':=Aside0.mk H
                    clear H
                    obtain ⟨Ao35,co35,eo35⟩:=Kd.R_slice HO_5.out
                    subst eo35
                    go_wp2
                    go_loopg [8,54] kj31 (fun kq v8 v54 w'=>∃ (x8_7:Int) (x54_7:Int),v8 = .int .i64 x8_7 ∧ v54 = .int .i64 x54_7 ∧ Aside0 (q14.l1 kq l0 x4_1 x5_1 x6_1 x7_19 x8_7 (x5_1.length:Int) x54_7 = some (r1,r2,r3,r4)) ∧ Aside0 (kq ≤ kj31) ∧ Aside0 (Kd.R (Kd.int .i64) 3 w' w.heap.size (fun k_=>some k_ ≠ ((.slice Ao35 x5_1.length co35):Value).ownBlock) u4 x4_1) ∧ Aside0 (Kd.R (Kd.int .i64) 3 w' w.heap.size (fun k_=>some k_ ≠ (u4:Value).ownBlock) (.slice Ao35 x5_1.length co35) x5_1) ∧ Aside0 (w'.heap[gb101]? = some (.cells #[(.slice none 0 0),(.slice none 0 0)] 24 (0,0))) ∧ Aside0 (w'.heap[gb102]? = some (.cells #[(.slice none 0 0),(.slice none 0 0)] 25 (0,0))) ∧ Aside0 (Below w.heap.size w w'))
                    case atStart=>exact ⟨(1),(0),oE,oE,H',⟨Nat.le_refl _⟩,⟨rq HO_4.out⟩,⟨rq HO_5.out⟩,⟨hq BK101.out⟩,⟨hq BK102.out⟩,⟨bg HB.out GE101 GE102⟩⟩
                    case round =>
                     clear H'
                     try clear c1
                     try clear p1
                     try clear q1
                     try clear hx1
                     try clear c2
                     try clear p2
                     try clear c3
                     try clear p6
                     try clear c9
                     try clear c9b0
                     try clear c10
                     try clear p10
                     try clear q10
                     try clear hx10
                     try clear c11
                     try clear c11b0
                     try clear p11
                     try clear q11
                     try clear hx11
                     try clear c12
                     try clear c12b0
                     try clear c13
                     try clear c15
                     try clear c15b0
                     try clear c17
                     try clear c17b0
                     try clear c18
                     try clear c18b0
                     try clear c19
                     try clear c21
                     try clear c22
                     try clear c22b0
                     try clear c23
                     try clear c23b0
                     try clear c26
                     try clear c26b0
                     try clear c26b1
                     try clear c27
                     try clear c28
                     try clear c29
                     try clear c33
                     try clear c33b0
                     try clear c33b1
                     try clear c34
                     try clear hx109_0
                     try clear hx111_0
                     try clear hx112_0
                     try clear p1
                     try clear p10
                     try clear p109
                     try clear p11
                     try clear p111
                     try clear p112
                     try clear p2
                     try clear p6
                     try clear q1
                     try clear q10
                     try clear q109
                     try clear q11
                     try clear q111
                     try clear q112
                     obtain ⟨x8_7,x54_7,rfl,rfl,HA,HK7,HO_4,HO_5,BK101,BK102,HB⟩:=hrel
                     cases gk with
                     | zero=>exact absurd HA.out (by simp [q14.l1])
                     | succ k7 =>
                      have H:=HA.out
                      clear HA
                      simp only [q14.l1] at H
                      by_cases c36:x54_7 < (x5_1.length:Int)
                      ·rw [if_pos c36] at H
                       have c36b0:decide (x54_7 < (x5_1.length:Int)) = true:=decide_eq_true c36
                       clear c36
                       by_cases c37:0 ≤ x54_7
                       ·rw [if_pos c37] at H
                        have c37b0:decide (0 ≤ x54_7) = true:=decide_eq_true c37
                        clear c37
                        by_cases c38:x54_7 < (x5_1.length:Int)
                        ·rw [if_pos c38] at H
                         have c38b0:decide (x54_7 < (x5_1.length:Int)) = true:=decide_eq_true c38
                         clear c38
                         by_cases c39:(rd x5_1 x54_7) = x7_19
                         ·rw [if_pos c39] at H
                          have c39b0:((rd x5_1 x54_7) == x7_19) = true:=beq_iff_eq.mpr c39
                          have c39b1:((rd x5_1 x54_7) != x7_19) = false:=bne_eq_false_iff_eq.mpr c39
                          clear c39
                          by_cases c40:x54_7 < (x4_1.length:Int)
                          ·rw [if_pos c40] at H
                           have c40b0:decide (x54_7 < (x4_1.length:Int)) = true:=decide_eq_true c40
                           clear c40
                           by_cases c41:(rd x4_1 x54_7) ≤ 2
                           ·rw [if_pos c41] at H
                            have c41b0:decide ((rd x4_1 x54_7) ≤ 2) = true:=decide_eq_true c41
                            clear c41
                            by_cases c42:x7_19 ≥ 0
                            ·rw [if_pos c42] at H
                             have c42b0:decide (0 ≤ x7_19) = true:=decide_eq_true c42
                             clear c42
                             by_cases c43:0 ≤ x7_19
                             ·rw [if_pos c43] at H
                              have c43b0:decide (0 ≤ x7_19) = true:=decide_eq_true c43
                              clear c43
                              by_cases c44:x7_19 < (x4_1.length:Int)
                              ·rw [if_pos c44] at H
                               have c44b0:decide (x7_19 < (x4_1.length:Int)) = true:=decide_eq_true c44
                               clear c44
                               by_cases c45:(rd x4_1 x7_19) = 1
                               ·rw [if_pos c45] at H
                                have c45b0:((rd x4_1 x7_19) == 1) = true:=beq_iff_eq.mpr c45
                                have c45b1:((rd x4_1 x7_19) != 1) = false:=bne_eq_false_iff_eq.mpr c45
                                clear c45
                                by_cases c46:0 ≤ x6_1
                                ·rw [if_pos c46] at H
                                 have c46b0:decide (0 ≤ x6_1) = true:=decide_eq_true c46
                                 clear c46
                                 by_cases c47:x6_1 < (l0.length:Int)
                                 ·rw [if_pos c47] at H
                                  have c47b0:decide (x6_1 < (l0.length:Int)) = true:=decide_eq_true c47
                                  clear c47
                                  replace H:=Option.bind_eq_some_iff.mp H
                                  obtain ⟨t124,A480,H⟩:=H
                                  replace H:(q14.l1 k7 l0 x4_1 x5_1 x6_1 x7_19 (wrap64 (3 + t124)) (x5_1.length:Int) (wrap64 (x54_7 + 1))) = some (r1,r2,r3,r4):=H
                                  have A48:=Aside0.mk A480
                                  clear A480
                                  have H':=Aside0.mk H
                                  clear H
                                  have p120:0 ≤ (x54_7:Int):=oA
                                  have q120:x54_7 < (x5_1.length:Int):=oA
                                  obtain ⟨ad120,e120,hx120_0⟩:=Kd.at_int (Kd.R_reads' HO_5.out).2.2 x54_7 p120 q120
                                  cases e120
                                  replace p120:=eq_true p120
                                  replace q120:=eq_true q120
                                  obtain ⟨Ao49,co49,eo49⟩:=Kd.R_slice HO_4.out
                                  subst eo49
                                  have p121:0 ≤ (x54_7:Int):=oA
                                  have q121:x54_7 < (x4_1.length:Int):=oA
                                  obtain ⟨ad121,e121,hx121_0⟩:=Kd.at_int (Kd.R_reads' HO_4.out).2.2 x54_7 p121 q121
                                  cases e121
                                  replace p121:=eq_true p121
                                  replace q121:=eq_true q121
                                  have p122:0 ≤ (x7_19:Int):=oA
                                  have q122:x7_19 < (x4_1.length:Int):=oA
                                  obtain ⟨ad122,e122,hx122_0⟩:=Kd.at_int (Kd.R_reads' HO_4.out).2.2 x7_19 p122 q122
                                  obtain rfl:ad121 = ad122:=(by injection e122)
                                  replace p122:=eq_true p122
                                  replace q122:=eq_true q122
                                  have p123:0 ≤ (x6_1:Int):=oA
                                  have q123:x6_1 < (l0.length:Int):=oA
                                  obtain ⟨ad123,e123,hx123_0⟩:=Kd.at_int HR0.out x6_1 p123 q123
                                  obtain rfl:ad109 = ad123:=(by injection e123)
                                  replace hx123_0:=(HB.out.cell (World.block_lt_of_cell? w _ hx123_0)).trans hx123_0
                                  replace p123:=eq_true p123
                                  replace q123:=eq_true q123
                                  go_wp2_with (first|((with_reducible refine gate_callee (f:=19) rfl ?_);refine goesL_ (some 86) rfl rfl Try.func19 (by kernel_rfl) rfl #[.int .i64 (wrap64 (Int.tdiv (rd l0 x6_1) 96)),.int .i64 2] rfl oF ?_;(with_reducible refine (q11.calls (wrap64 (Int.tdiv (rd l0 x6_1) 96)) 2 t124 _ A48.out).mono ?_);rintro e w' ⟨rfl,⟨nd,rfl⟩⟩;refine ⟨_,rfl,?_⟩))
                                  go_roundg k7
                                  case measure=>have:=HK1.out;have:=HJ7.out;have:=HJ13.out;have:=HJ19.out;have:=HJ24.out;have:=HJ31.out;have:=HK7.out;omega
                                  case rel=>exact ⟨(wrap64 (3 + t124)),(wrap64 (x54_7 + 1)),oE,oE,H',⟨by have:=HK1.out;have:=HJ7.out;have:=HJ13.out;have:=HJ19.out;have:=HJ24.out;have:=HJ31.out;have:=HK7.out;omega⟩,⟨rq HO_4.out⟩,⟨rq HO_5.out⟩,⟨hq BK101.out⟩,⟨hq BK102.out⟩,⟨bg HB.out GE101 GE102⟩⟩
                                 ·rw [if_neg c47] at H
                                  exact absurd H (by simp)
                                ·rw [if_neg c46] at H
                                 exact absurd H (by simp)
                               ·rw [if_neg c45] at H
                                have c45b0:((rd x4_1 x7_19) == 1) = false:=beq_eq_false_iff_ne.mpr c45
                                have c45b1:((rd x4_1 x7_19) != 1) = true:=bne_iff_ne.mpr c45
                                have H':=Aside0.mk H
                                clear H
                                have p120:0 ≤ (x54_7:Int):=oA
                                have q120:x54_7 < (x5_1.length:Int):=oA
                                obtain ⟨ad120,e120,hx120_0⟩:=Kd.at_int (Kd.R_reads' HO_5.out).2.2 x54_7 p120 q120
                                cases e120
                                replace p120:=eq_true p120
                                replace q120:=eq_true q120
                                obtain ⟨Ao50,co50,eo50⟩:=Kd.R_slice HO_4.out
                                subst eo50
                                have p121:0 ≤ (x54_7:Int):=oA
                                have q121:x54_7 < (x4_1.length:Int):=oA
                                obtain ⟨ad121,e121,hx121_0⟩:=Kd.at_int (Kd.R_reads' HO_4.out).2.2 x54_7 p121 q121
                                cases e121
                                replace p121:=eq_true p121
                                replace q121:=eq_true q121
                                have p122:0 ≤ (x7_19:Int):=oA
                                have q122:x7_19 < (x4_1.length:Int):=oA
                                obtain ⟨ad122,e122,hx122_0⟩:=Kd.at_int (Kd.R_reads' HO_4.out).2.2 x7_19 p122 q122
                                obtain rfl:ad121 = ad122:=(by injection e122)
                                replace p122:=eq_true p122
                                replace q122:=eq_true q122
                                go_wp2
                                go_roundg k7
                                case measure=>have:=HK1.out;have:=HJ7.out;have:=HJ13.out;have:=HJ19.out;have:=HJ24.out;have:=HJ31.out;have:=HK7.out;omega
                                case rel=>exact ⟨(x8_7),(wrap64 (x54_7 + 1)),oE,oE,H',⟨by have:=HK1.out;have:=HJ7.out;have:=HJ13.out;have:=HJ19.out;have:=HJ24.out;have:=HJ31.out;have:=HK7.out;omega⟩,⟨rq HO_4.out⟩,⟨rq HO_5.out⟩,⟨hq BK101.out⟩,⟨hq BK102.out⟩,⟨bg HB.out GE101 GE102⟩⟩
                              ·rw [if_neg c44] at H
                               exact absurd H (by simp)
                             ·rw [if_neg c43] at H
                              exact absurd H (by simp)
                            ·rw [if_neg c42] at H
                             have c42b0:decide (0 ≤ x7_19) = false:=decide_eq_false c42
                             clear c42
                             have H':=Aside0.mk H
                             clear H
                             have p120:0 ≤ (x54_7:Int):=oA
                             have q120:x54_7 < (x5_1.length:Int):=oA
                             obtain ⟨ad120,e120,hx120_0⟩:=Kd.at_int (Kd.R_reads' HO_5.out).2.2 x54_7 p120 q120
                             cases e120
                             replace p120:=eq_true p120
                             replace q120:=eq_true q120
                             obtain ⟨Ao51,co51,eo51⟩:=Kd.R_slice HO_4.out
                             subst eo51
                             have p121:0 ≤ (x54_7:Int):=oA
                             have q121:x54_7 < (x4_1.length:Int):=oA
                             obtain ⟨ad121,e121,hx121_0⟩:=Kd.at_int (Kd.R_reads' HO_4.out).2.2 x54_7 p121 q121
                             cases e121
                             replace p121:=eq_true p121
                             replace q121:=eq_true q121
                             go_wp2
                             go_roundg k7
                             case measure=>have:=HK1.out;have:=HJ7.out;have:=HJ13.out;have:=HJ19.out;have:=HJ24.out;have:=HJ31.out;have:=HK7.out;omega
                             case rel=>exact ⟨(x8_7),(wrap64 (x54_7 + 1)),oE,oE,H',⟨by have:=HK1.out;have:=HJ7.out;have:=HJ13.out;have:=HJ19.out;have:=HJ24.out;have:=HJ31.out;have:=HK7.out;omega⟩,⟨rq HO_4.out⟩,⟨rq HO_5.out⟩,⟨hq BK101.out⟩,⟨hq BK102.out⟩,⟨bg HB.out GE101 GE102⟩⟩
                           ·rw [if_neg c41] at H
                            have c41b0:decide ((rd x4_1 x54_7) ≤ 2) = false:=decide_eq_false c41
                            clear c41
                            have H':=Aside0.mk H
                            clear H
                            have p120:0 ≤ (x54_7:Int):=oA
                            have q120:x54_7 < (x5_1.length:Int):=oA
                            obtain ⟨ad120,e120,hx120_0⟩:=Kd.at_int (Kd.R_reads' HO_5.out).2.2 x54_7 p120 q120
                            cases e120
                            replace p120:=eq_true p120
                            replace q120:=eq_true q120
                            obtain ⟨Ao52,co52,eo52⟩:=Kd.R_slice HO_4.out
                            subst eo52
                            have p121:0 ≤ (x54_7:Int):=oA
                            have q121:x54_7 < (x4_1.length:Int):=oA
                            obtain ⟨ad121,e121,hx121_0⟩:=Kd.at_int (Kd.R_reads' HO_4.out).2.2 x54_7 p121 q121
                            cases e121
                            replace p121:=eq_true p121
                            replace q121:=eq_true q121
                            go_wp2
                            go_roundg k7
                            case measure=>have:=HK1.out;have:=HJ7.out;have:=HJ13.out;have:=HJ19.out;have:=HJ24.out;have:=HJ31.out;have:=HK7.out;omega
                            case rel=>exact ⟨(x8_7),(wrap64 (x54_7 + 1)),oE,oE,H',⟨by have:=HK1.out;have:=HJ7.out;have:=HJ13.out;have:=HJ19.out;have:=HJ24.out;have:=HJ31.out;have:=HK7.out;omega⟩,⟨rq HO_4.out⟩,⟨rq HO_5.out⟩,⟨hq BK101.out⟩,⟨hq BK102.out⟩,⟨bg HB.out GE101 GE102⟩⟩
                          ·rw [if_neg c40] at H
                           exact absurd H (by simp)
                         ·rw [if_neg c39] at H
                          have c39b0:((rd x5_1 x54_7) == x7_19) = false:=beq_eq_false_iff_ne.mpr c39
                          have c39b1:((rd x5_1 x54_7) != x7_19) = true:=bne_iff_ne.mpr c39
                          have H':=Aside0.mk H
                          clear H
                          have p120:0 ≤ (x54_7:Int):=oA
                          have q120:x54_7 < (x5_1.length:Int):=oA
                          obtain ⟨ad120,e120,hx120_0⟩:=Kd.at_int (Kd.R_reads' HO_5.out).2.2 x54_7 p120 q120
                          cases e120
                          replace p120:=eq_true p120
                          replace q120:=eq_true q120
                          go_wp2
                          go_roundg k7
                          case measure=>have:=HK1.out;have:=HJ7.out;have:=HJ13.out;have:=HJ19.out;have:=HJ24.out;have:=HJ31.out;have:=HK7.out;omega
                          case rel=>exact ⟨(x8_7),(wrap64 (x54_7 + 1)),oE,oE,H',⟨by have:=HK1.out;have:=HJ7.out;have:=HJ13.out;have:=HJ19.out;have:=HJ24.out;have:=HJ31.out;have:=HK7.out;omega⟩,⟨rq HO_4.out⟩,⟨rq HO_5.out⟩,⟨hq BK101.out⟩,⟨hq BK102.out⟩,⟨bg HB.out GE101 GE102⟩⟩
                        ·rw [if_neg c38] at H
                         exact absurd H (by simp)
                       ·rw [if_neg c37] at H
                        exact absurd H (by simp)
                      ·rw [if_neg c36] at H
                       have c36b0:decide (x54_7 < (x5_1.length:Int)) = false:=decide_eq_false c36
                       clear c36
                       by_cases c53:x4_1.length < 17592186044416
                       ·rw [if_pos c53] at H
                        have LMc53:=Aside0.mk c53
                        clear c53
                        obtain ⟨y125,hy125⟩:∃ y_:List Int,y_ = (x4_1 ++ [x8_7]):=⟨_,rfl⟩
                        replace H:(if x5_1.length < 17592186044416 then (q14.l0 k7 l0 y125 (x5_1 ++ [x7_19]) (wrap64 (x6_1 + 1))) else (none)) = some (r1,r2,r3,r4):=by first|(rw [hy125];with_reducible exact H)|(have H2_:=(Option.bind_some _ _).symm.trans H;rw [hy125];with_reducible exact H2_)|(have H2_:=(Option.bind_some _ _).symm.trans H;with_reducible exact H2_)|with_reducible exact H|(rw [hy125];exact H)|exact H
                        have Ny125:=Aside0.mk hy125
                        clear hy125
                        by_cases c54:x5_1.length < 17592186044416
                        ·rw [if_pos c54] at H
                         have LMc54:=Aside0.mk c54
                         clear c54
                         obtain ⟨y128,hy128⟩:∃ y_:List Int,y_ = (x5_1 ++ [x7_19]):=⟨_,rfl⟩
                         replace H:(q14.l0 k7 l0 y125 y128 (wrap64 (x6_1 + 1))) = some (r1,r2,r3,r4):=by first|(rw [hy128];with_reducible exact H)|(have H2_:=(Option.bind_some _ _).symm.trans H;rw [hy128];with_reducible exact H2_)|(have H2_:=(Option.bind_some _ _).symm.trans H;with_reducible exact H2_)|with_reducible exact H|(rw [hy128];exact H)|exact H
                         have Ny128:=Aside0.mk hy128
                         clear hy128
                         have H':=Aside0.mk H
                         clear H
                         go_wp2_with (first|((with_reducible refine gate_builtin (b:=.append) (xs:=#[.tmp 89,.tmp 91]) rfl ?_);at_builtin;refine Kd.R_append (Kd.int .i64) (w0:=w) w.heap.size rfl (.tmp 89) (.tmp 91) 22 3 (.int .i64 0) 8 rfl Try.underlying22 info3 rfl (by decide) (by omega) u4 x4_1 x8_7 [.int .i64 x8_7] (fun k_=>some k_ ≠ (.slice Ao35 x5_1.length co35:Value).ownBlock) (fun _=>False) rfl rfl ?aP (fun _ hk=>hk.elim) ?aF ?aO ?aB ?aS ?aL ?_;(case aP=>exact rfl);(case aB=>exact (bg HB.out GE101 GE102));(case aF=>exact (fun k_ hk=>Kd.fresh' (Kd.R_lt (rq HO_5.out)) k_ hk));(case aO=>exact (rq HO_4.out));(case aS=>exact (below_size (bg HB.out GE101 GE102)));(case aL=>have:=LMc53.out;omega);intro v126 w55 ho hb hg hat;rw [← Ny125.out] at ho;have n0_:=zk (Kd.R_after (ok:=(fun _=>True)) (rq (Kd.R_mono HO_5.out (fun _ hk=>⟨trivial,hk⟩))) hg hat);have n1_:=zk (blk_grown (g:=gb101) (o:=.cells #[.slice none 0 0,.slice none 0 0] 24 (0,0)) (hq BK101.out) hg (Kd.R_ne HO_4.out BK101.out (by decide)));have n2_:=zk (blk_grown (g:=gb102) (o:=.cells #[.slice none 0 0,.slice none 0 0] 25 (0,0)) (hq BK102.out) hg (Kd.R_ne HO_4.out BK102.out (by decide)));have n3_:=zk (hb);have n4_:=zk (ho);clear HO_5;clear BK101;clear BK102;clear HB;clear HO_4;have HO_5:=n0_;have BK101:=n1_;have BK102:=n2_;have HB:=n3_;have HO127:=n4_;clear n0_ n1_ n2_ n3_ n4_;clear ho hb hg hat)|((with_reducible refine gate_builtin (b:=.append) (xs:=#[.tmp 93,.tmp 95]) rfl ?_);at_builtin;refine Kd.R_append (Kd.int .i64) (w0:=w) w.heap.size rfl (.tmp 93) (.tmp 95) 22 3 (.int .i64 0) 8 rfl Try.underlying22 info3 rfl (by decide) (by omega) (.slice Ao35 x5_1.length co35) x5_1 x7_19 [.int .i64 x7_19] (fun k_=>some k_ ≠ (v126:Value).ownBlock) (fun _=>False) rfl rfl ?aP (fun _ hk=>hk.elim) ?aF ?aO ?aB ?aS ?aL ?_;(case aP=>exact rfl);(case aB=>exact (bg HB.out GE101 GE102));(case aF=>exact (fun k_ hk=>Kd.fresh' (Kd.R_lt (rq HO127.out)) k_ hk));(case aO=>exact (rq (Kd.R_mono HO_5.out (fun _ hk=>hk.2))));(case aS=>exact (below_size (bg HB.out GE101 GE102)));(case aL=>have:=LMc54.out;omega);intro v129 w56 ho hb hg hat;rw [← Ny128.out] at ho;have n0_:=zk (blk_grown (g:=gb101) (o:=.cells #[.slice none 0 0,.slice none 0 0] 24 (0,0)) (hq BK101.out) hg (Kd.R_ne HO_5.out BK101.out (by decide)));have n1_:=zk (blk_grown (g:=gb102) (o:=.cells #[.slice none 0 0,.slice none 0 0] 25 (0,0)) (hq BK102.out) hg (Kd.R_ne HO_5.out BK102.out (by decide)));have n2_:=zk (Kd.R_after (ok:=(fun _=>True)) (rq (Kd.R_mono HO127.out (fun _ hk=>⟨trivial,hk⟩))) hg hat);have n3_:=zk (hb);have n4_:=zk (ho);clear BK101;clear BK102;clear HO127;clear HB;clear HO_5;have BK101:=n0_;have BK102:=n1_;have HO127:=n2_;have HB:=n3_;have HO130:=n4_;clear n0_ n1_ n2_ n3_ n4_;clear ho hb hg hat))
                         go_roundg k7
                         case measure=>have:=HK1.out;have:=HJ7.out;have:=HJ13.out;have:=HJ19.out;have:=HJ24.out;have:=HJ31.out;have:=HK7.out;omega
                         case rel=>exact ⟨(y125),(y128),(wrap64 (x6_1 + 1)),oE,H',⟨by have:=HK1.out;have:=HJ7.out;have:=HJ13.out;have:=HJ19.out;have:=HJ24.out;have:=HJ31.out;have:=HK7.out;omega⟩,⟨rq (Kd.R_mono HO127.out (fun _ hk=>hk.2))⟩,⟨rq HO130.out⟩,⟨hq BK101.out⟩,⟨hq BK102.out⟩,⟨bg HB.out GE101 GE102⟩⟩
                        ·rw [if_neg c54] at H
                         exact absurd H (by simp)
                       ·rw [if_neg c53] at H
                        exact absurd H (by simp)
                   ·replace c34:=Bool.eq_false_iff.mpr c34
                    subst c34
                    have H1:(if x4_1.length < 17592186044416 then (if x5_1.length < 17592186044416 then (q14.l0 kj31 l0 (x4_1 ++ [1]) (x5_1 ++ [x7_19]) (wrap64 (x6_1 + 1))) else (none)) else (none)) = some (r1,r2,r3,r4):=by rw [if_neg (show ¬ (false = true) by decide)] at H;exact H
                    clear H
                    have H:=H1
                    clear H1
                    by_cases c57:x4_1.length < 17592186044416
                    ·rw [if_pos c57] at H
                     have LMc57:=Aside0.mk c57
                     clear c57
                     obtain ⟨y131,hy131⟩:∃ y_:List Int,y_ = (x4_1 ++ [1]):=⟨_,rfl⟩
                     replace H:(if x5_1.length < 17592186044416 then (q14.l0 kj31 l0 y131 (x5_1 ++ [x7_19]) (wrap64 (x6_1 + 1))) else (none)) = some (r1,r2,r3,r4):=by first|(rw [hy131];with_reducible exact H)|(have H2_:=(Option.bind_some _ _).symm.trans H;rw [hy131];with_reducible exact H2_)|(have H2_:=(Option.bind_some _ _).symm.trans H;with_reducible exact H2_)|with_reducible exact H|(rw [hy131];exact H)|exact H
                     have Ny131:=Aside0.mk hy131
                     clear hy131
                     by_cases c58:x5_1.length < 17592186044416
                     ·rw [if_pos c58] at H
                      have LMc58:=Aside0.mk c58
                      clear c58
                      obtain ⟨y134,hy134⟩:∃ y_:List Int,y_ = (x5_1 ++ [x7_19]):=⟨_,rfl⟩
                      replace H:(q14.l0 kj31 l0 y131 y134 (wrap64 (x6_1 + 1))) = some (r1,r2,r3,r4):=by first|(rw [hy134];with_reducible exact H)|(have H2_:=(Option.bind_some _ _).symm.trans H;rw [hy134];with_reducible exact H2_)|(have H2_:=(Option.bind_some _ _).symm.trans H;with_reducible exact H2_)|with_reducible exact H|(rw [hy134];exact H)|exact H
                      have Ny134:=Aside0.mk hy134
                      clear hy134
                      have H':=Aside0.mk H
                      clear H
                      go_wp2_with (first|((with_reducible refine gate_builtin (b:=.append) (xs:=#[.tmp 89,.tmp 91]) rfl ?_);at_builtin;refine Kd.R_append (Kd.int .i64) (w0:=w) w.heap.size rfl (.tmp 89) (.tmp 91) 22 3 (.int .i64 0) 8 rfl Try.underlying22 info3 rfl (by decide) (by omega) u4 x4_1 1 [.int .i64 1] (fun k_=>some k_ ≠ (u5:Value).ownBlock) (fun _=>False) rfl rfl ?aP (fun _ hk=>hk.elim) ?aF ?aO ?aB ?aS ?aL ?_;(case aP=>exact rfl);(case aB=>exact (bg HB.out GE101 GE102));(case aF=>exact (fun k_ hk=>Kd.fresh' (Kd.R_lt (rq HO_5.out)) k_ hk));(case aO=>exact (rq HO_4.out));(case aS=>exact (below_size (bg HB.out GE101 GE102)));(case aL=>have:=LMc57.out;omega);intro v132 w59 ho hb hg hat;rw [← Ny131.out] at ho;have n0_:=zk (Kd.R_after (ok:=(fun _=>True)) (rq (Kd.R_mono HO_5.out (fun _ hk=>⟨trivial,hk⟩))) hg hat);have n1_:=zk (blk_grown (g:=gb101) (o:=.cells #[.slice none 0 0,.slice none 0 0] 24 (0,0)) (hq BK101.out) hg (Kd.R_ne HO_4.out BK101.out (by decide)));have n2_:=zk (blk_grown (g:=gb102) (o:=.cells #[.slice none 0 0,.slice none 0 0] 25 (0,0)) (hq BK102.out) hg (Kd.R_ne HO_4.out BK102.out (by decide)));have n3_:=zk (hb);have n4_:=zk (ho);clear HO_5;clear BK101;clear BK102;clear HB;clear HO_4;have HO_5:=n0_;have BK101:=n1_;have BK102:=n2_;have HB:=n3_;have HO133:=n4_;clear n0_ n1_ n2_ n3_ n4_;clear ho hb hg hat)|((with_reducible refine gate_builtin (b:=.append) (xs:=#[.tmp 93,.tmp 95]) rfl ?_);at_builtin;refine Kd.R_append (Kd.int .i64) (w0:=w) w.heap.size rfl (.tmp 93) (.tmp 95) 22 3 (.int .i64 0) 8 rfl Try.underlying22 info3 rfl (by decide) (by omega) u5 x5_1 x7_19 [.int .i64 x7_19] (fun k_=>some k_ ≠ (v132:Value).ownBlock) (fun _=>False) rfl rfl ?aP (fun _ hk=>hk.elim) ?aF ?aO ?aB ?aS ?aL ?_;(case aP=>exact rfl);(case aB=>exact (bg HB.out GE101 GE102));(case aF=>exact (fun k_ hk=>Kd.fresh' (Kd.R_lt (rq HO133.out)) k_ hk));(case aO=>exact (rq (Kd.R_mono HO_5.out (fun _ hk=>hk.2))));(case aS=>exact (below_size (bg HB.out GE101 GE102)));(case aL=>have:=LMc58.out;omega);intro v135 w60 ho hb hg hat;rw [← Ny134.out] at ho;have n0_:=zk (blk_grown (g:=gb101) (o:=.cells #[.slice none 0 0,.slice none 0 0] 24 (0,0)) (hq BK101.out) hg (Kd.R_ne HO_5.out BK101.out (by decide)));have n1_:=zk (blk_grown (g:=gb102) (o:=.cells #[.slice none 0 0,.slice none 0 0] 25 (0,0)) (hq BK102.out) hg (Kd.R_ne HO_5.out BK102.out (by decide)));have n2_:=zk (Kd.R_after (ok:=(fun _=>True)) (rq (Kd.R_mono HO133.out (fun _ hk=>⟨trivial,hk⟩))) hg hat);have n3_:=zk (hb);have n4_:=zk (ho);clear BK101;clear BK102;clear HO133;clear HB;clear HO_5;have BK101:=n0_;have BK102:=n1_;have HO133:=n2_;have HB:=n3_;have HO136:=n4_;clear n0_ n1_ n2_ n3_ n4_;clear ho hb hg hat))
                      go_roundg kj31
                      case measure=>have:=HK1.out;have:=HJ7.out;have:=HJ13.out;have:=HJ19.out;have:=HJ24.out;have:=HJ31.out;omega
                      case rel=>exact ⟨(y131),(y134),(wrap64 (x6_1 + 1)),oE,H',⟨by have:=HK1.out;have:=HJ7.out;have:=HJ13.out;have:=HJ19.out;have:=HJ24.out;have:=HJ31.out;omega⟩,⟨rq (Kd.R_mono HO133.out (fun _ hk=>hk.2))⟩,⟨rq HO136.out⟩,⟨hq BK101.out⟩,⟨hq BK102.out⟩,⟨bg HB.out GE101 GE102⟩⟩
                     ·rw [if_neg c58] at H
                      exact absurd H (by simp)
                    ·rw [if_neg c57] at H
                     exact absurd H (by simp)
             ·rw [if_neg c23] at H
              exact absurd H (by simp)
            ·rw [if_neg c22] at H
             exact absurd H (by simp)
       ·rw [if_neg c12] at H
        exact absurd H (by simp)
      ·rw [if_neg c11] at H
       exact absurd H (by simp)
     ·replace c10:=Bool.eq_false_iff.mpr c10
      subst c10
      have H1:(if (l0.length:Int) > 0 then (if 0 < (l0.length:Int) then (q14.j7 kj7 x4_1 x5_1 ((Int.tmod (rd l0 0) 3) == 0)) else (none)) else (q14.j7 kj7 x4_1 x5_1 false)) = some (r1,r2,r3,r4):=by rw [if_neg (show ¬ (false = true) by decide)] at H;exact H
      clear H
      have H:=H1
      clear H1
      have HC61:=Aside0.mk H
      clear H
      go_upto_region 22 with (fail)
      go_cut [106] (fun v106 wc=>∃ (kq:Nat) (x106_60:Bool),v106 = .bool x106_60 ∧ Aside0 (q14.j7 kq x4_1 x5_1 x106_60 = some (r1,r2,r3,r4)) ∧ Aside0 (kq ≤ kj7) ∧ Aside0 (Kd.R (Kd.int .i64) 3 wc w.heap.size (fun k_=>some k_ ≠ (u5:Value).ownBlock) u4 x4_1) ∧ Aside0 (Kd.R (Kd.int .i64) 3 wc w.heap.size (fun k_=>some k_ ≠ (u4:Value).ownBlock) u5 x5_1) ∧ Aside0 (wc.heap[gb101]? = some (.cells #[(.slice none 0 0),(.slice none 0 0)] 24 (0,0))) ∧ Aside0 (wc.heap[gb102]? = some (.cells #[(.slice none 0 0),(.slice none 0 0)] 25 (0,0))) ∧ Aside0 (Below w.heap.size w wc))
      case first =>
       have H:=HC61.out
       clear HC61
       by_cases c62:(l0.length:Int) > 0
       ·rw [if_pos c62] at H
        have c62b0:decide (0 < (l0.length:Int)) = true:=decide_eq_true c62
        have c62b1:decide (0 < l0.length) = true:=decide_eq_true (by omega)
        clear c62
        (first|rw [c62b0]|(simp only [i64_w,i32_w];rw [c62b0])|skip)
        by_cases c63:0 < (l0.length:Int)
        ·rw [if_pos c63] at H
         have c63b0:decide (0 < (l0.length:Int)) = true:=decide_eq_true c63
         have c63b1:decide (0 < l0.length) = true:=decide_eq_true (by omega)
         clear c63
         have H':=Aside0.mk H
         clear H
         have p137:0 ≤ (0:Int):=(by omega)
         have q137:0 < (l0.length:Int):=oA
         obtain ⟨ad137,e137,hx137_0⟩:=Kd.at_int HR0.out 0 p137 q137
         cases e137
         have qi137:(0 < l0.length) = True:=eq_true (by omega)
         (try rw [show ((0:Int)).toNat = 0 from rfl] at hx137_0)
         (try rw [Addr.add_zero'] at hx137_0)
         replace hx137_0:=(HB.out.cell (World.block_lt_of_cell? w _ hx137_0)).trans hx137_0
         replace p137:=eq_true p137
         replace q137:=eq_true q137
         go_wp2
         go_meet
         case rel=>exact ⟨_,(((Int.tmod (rd l0 0) 3) == 0)),oE,H',⟨by have:=HK1.out;have:=HJ7.out;first|omega|exact Nat.le_refl _⟩,⟨rq HO_4.out⟩,⟨rq HO_5.out⟩,⟨hq BK101.out⟩,⟨hq BK102.out⟩,⟨bg HB.out GE101 GE102⟩⟩
        ·rw [if_neg c63] at H
         exact absurd H (by simp)
       ·rw [if_neg c62] at H
        have c62b0:decide (0 < (l0.length:Int)) = false:=decide_eq_false c62
        have c62b1:decide (0 < l0.length) = false:=decide_eq_false (by omega)
        clear c62
        (first|rw [c62b0]|(simp only [i64_w,i32_w];rw [c62b0])|skip)
        have H':=Aside0.mk H
        clear H
        go_wp2
        go_meet
        case rel=>exact ⟨_,(false),oE,H',⟨by have:=HK1.out;have:=HJ7.out;first|omega|exact Nat.le_refl _⟩,⟨rq HO_4.out⟩,⟨rq HO_5.out⟩,⟨hq BK101.out⟩,⟨hq BK102.out⟩,⟨bg HB.out GE101 GE102⟩⟩
      case rest =>
       clear HC61
       try clear c1
       try clear p1
       try clear q1
       try clear hx1
       try clear qi1
       try clear c2
       try clear p2
       try clear c3
       try clear c4
       try clear c5
       try clear c6
       try clear p6
       try clear c9
       try clear c9b0
       try clear c10
       try clear p10
       try clear q10
       try clear hx10
       try clear c11
       try clear c11b0
       try clear p11
       try clear q11
       try clear hx11
       try clear c12
       try clear c12b0
       try clear p12
       try clear q12
       try clear hx12
       try clear c13
       try clear p13
       try clear q13
       try clear hx13
       try clear qi13
       try clear c15
       try clear c15b0
       try clear c17
       try clear c17b0
       try clear c18
       try clear c18b0
       try clear c19
       try clear c21
       try clear c22
       try clear c22b0
       try clear c23
       try clear c23b0
       try clear c26
       try clear c26b0
       try clear c26b1
       try clear c27
       try clear c28
       try clear c29
       try clear c33
       try clear c33b0
       try clear c33b1
       try clear c34
       try clear c36
       try clear c36b0
       try clear c37
       try clear c37b0
       try clear c38
       try clear c38b0
       try clear c39
       try clear c39b0
       try clear c39b1
       try clear c40
       try clear c40b0
       try clear c41
       try clear c41b0
       try clear c42
       try clear c42b0
       try clear c43
       try clear c43b0
       try clear c44
       try clear c44b0
       try clear c45
       try clear c45b0
       try clear c45b1
       try clear c46
       try clear c46b0
       try clear c47
       try clear c47b0
       try clear c53
       try clear c54
       try clear c57
       try clear c58
       try clear c62
       try clear c62b0
       try clear c62b1
       try clear c63
       try clear c63b0
       try clear c63b1
       try clear hx109_0
       try clear hx111_0
       try clear hx112_0
       try clear hx120_0
       try clear hx121_0
       try clear hx122_0
       try clear hx123_0
       try clear hx137_0
       try clear p1
       try clear p10
       try clear p109
       try clear p11
       try clear p111
       try clear p112
       try clear p120
       try clear p121
       try clear p122
       try clear p123
       try clear p137
       try clear p2
       try clear p6
       try clear q1
       try clear q10
       try clear q109
       try clear q11
       try clear q111
       try clear q112
       try clear q120
       try clear q121
       try clear q122
       try clear q123
       try clear q137
       obtain ⟨kq,x106_60,rfl,HA,HJ60,HO_4,HO_5,BK101,BK102,HB⟩:=hcut
       cases kq with
       | zero=>exact absurd HA.out (by simp [q14.j7])
       | succ kj60 =>
        have H:=HA.out
        clear HA
        simp only [q14.j7] at H
        by_cases c64:x106_60 = true
        ·subst c64
         have H1:(if 0 < (x4_1.length:Int) then (q14.l2 kj60 (x4_1.set (0:Int).toNat 2) x5_1 (x5_1.length:Int) 0) else (none)) = some (r1,r2,r3,r4):=by rw [if_pos rfl] at H;exact H
         clear H
         have H:=H1
         clear H1
         by_cases c65:0 < (x4_1.length:Int)
         ·rw [if_pos c65] at H
          have c65b0:decide (0 < (x4_1.length:Int)) = true:=decide_eq_true c65
          have c65b1:decide (0 < x4_1.length) = true:=decide_eq_true (by omega)
          clear c65
          obtain ⟨y138,hy138⟩:∃ y_:List Int,y_ = (x4_1.set (0:Int).toNat 2):=⟨_,rfl⟩
          replace H:(q14.l2 kj60 y138 x5_1 (x5_1.length:Int) 0) = some (r1,r2,r3,r4):=by first|(rw [hy138];with_reducible exact H)|(have H2_:=(Option.bind_some _ _).symm.trans H;rw [hy138];with_reducible exact H2_)|(have H2_:=(Option.bind_some _ _).symm.trans H;with_reducible exact H2_)|with_reducible exact H|(rw [hy138];exact H)|exact H
          have Ny138:=Aside0.mk hy138
          clear hy138
          have H':=Aside0.mk H
          clear H
          have p66:0 ≤ (0:Int):=(by omega)
          have q66:(0:Int) < ((x4_1.length:Int):Int):=oA
          have qi66:(0 < x4_1.length) = True:=eq_true (by omega)
          obtain ⟨go66,co66,eo66,gb66,gl66,cl66,HG66⟩:=Kd.R_form HO_4.out (by omega)
          (first|cases eo66|(injection eo66 with ea_ en_ ec_;(first|subst ea_|(injection ea_ with ea_;subst ea_));subst ec_;clear en_))
          have GB66:=Aside0.mk gb66
          have GG66:=Aside0.mk HG66
          clear gb66 gl66 HG66
          obtain ⟨hx66_0,hf66_0⟩:=Kd.R_celln 0 HO_4.out (0:Int) p66 q66
          (try rw [show ((0:Int)).toNat = 0 from rfl] at hx66_0)
          (try simp only [Nat.reduceMul,Nat.zero_mul,Nat.zero_add,Nat.reduceAdd] at hx66_0)
          (try rw [show ((0:Int)).toNat = 0 from rfl] at hf66_0)
          (try simp only [Nat.reduceMul,Nat.zero_mul,Nat.zero_add,Nat.reduceAdd] at hf66_0)
          replace p66:=eq_true p66
          replace q66:=eq_true q66
          have HP67:=Kd.R_putg HO_4.out (0:Int) 2
          go_wp2_with (first|((with_reducible refine gate_store (t:=3) (p:=108) rfl ?_);refine store_event (t:=3) (p:=108) (v:=?vo_w68) (w1:=(wc.setCell ⟨go66,(0:Int).toNat,none⟩ (.int .i64 2))) ?hg ?ho ?hn ?hr ?_;(case ho=>rfl);(case hg=>rfl);(case hn=>rfl);(case hr=>first|(go_simp;done)|(go_simp;rfl));intro w68 hw;have hg:wc.grownBy w68 (some go66):=(by rw [hw];exact HP67.2);have hp_:Kd.R (Kd.int .i64) 3 w68 w.heap.size (fun k_=>some k_ ≠ (u5:Value).ownBlock) (.slice (some ⟨go66,0,none⟩) x4_1.length co66) y138:=(by rw [hw,Ny138.out];exact HP67.1);clear HP67;have n0_:=zk (hp_);have n1_:=zk (Kd.R_after (v:=(.slice (some ⟨go66,0,none⟩) x4_1.length co66)) (v1:=(.slice (some ⟨go66,0,none⟩) x4_1.length co66)) (ok:=(fun _=>True)) (rq (Kd.R_mono HO_5.out (fun _ hk=>⟨trivial,hk⟩))) hg (.inl rfl));have n2_:=zk (blk_grown (g:=gb101) (o:=.cells #[.slice none 0 0,.slice none 0 0] 24 (0,0)) (hq BK101.out) hg (Kd.R_ne HO_4.out BK101.out (by decide)));have n3_:=zk (blk_grown (g:=gb102) (o:=.cells #[.slice none 0 0,.slice none 0 0] 25 (0,0)) (hq BK102.out) hg (Kd.R_ne HO_4.out BK102.out (by decide)));have n4_:=zk ((by rw [hw];exact below_set (HB.out) GB66.out:Below w.heap.size w w68));clear HO_4;clear HO_5;clear BK101;clear BK102;clear HB;have HO_4:=n0_;have HO_5:=n1_;have BK101:=n2_;have BK102:=n3_;have HB:=n4_;clear n0_ n1_ n2_ n3_ n4_;clear hg hw hp_;obtain ⟨Ao69,co69,eo69⟩:=Kd.R_slice HO_5.out;subst eo69))
          go_loopg [111] kj60 (fun kq v111 w'=>∃ (x4_4:List Int) (x111_4:Int),v111 = .int .i64 x111_4 ∧ Aside0 (q14.l2 kq x4_4 x5_1 (x5_1.length:Int) x111_4 = some (r1,r2,r3,r4)) ∧ Aside0 (kq ≤ kj60) ∧ Aside0 (Kd.R (Kd.int .i64) 3 w' w.heap.size (fun k_=>some k_ ≠ ((.slice Ao69 x5_1.length co69):Value).ownBlock) (.slice (some ⟨go66,0,none⟩) x4_1.length co66) x4_4) ∧ Aside0 (Kd.R (Kd.int .i64) 3 w' w.heap.size (fun k_=>some k_ ≠ ((.slice (some ⟨go66,0,none⟩) x4_1.length co66):Value).ownBlock) (.slice Ao69 x5_1.length co69) x5_1) ∧ Aside0 (w'.heap[gb101]? = some (.cells #[(.slice none 0 0),(.slice none 0 0)] 24 (0,0))) ∧ Aside0 (w'.heap[gb102]? = some (.cells #[(.slice none 0 0),(.slice none 0 0)] 25 (0,0))) ∧ Aside0 (Below w.heap.size w w'))
          case atStart=>exact ⟨(y138),(0),oE,H',⟨Nat.le_refl _⟩,⟨rq HO_4.out⟩,⟨rq (Kd.R_mono HO_5.out (fun _ hk=>hk.2))⟩,⟨hq BK101.out⟩,⟨hq BK102.out⟩,⟨bg HB.out GE101 GE102⟩⟩
          case round =>
           clear H'
           try clear c1
           try clear p1
           try clear q1
           try clear hx1
           try clear qi1
           try clear c2
           try clear p2
           try clear c3
           try clear c4
           try clear c5
           try clear c6
           try clear p6
           try clear q6
           try clear hx6
           try clear qi6
           try clear hf6
           try clear c9
           try clear c9b0
           try clear c10
           try clear p10
           try clear q10
           try clear hx10
           try clear c11
           try clear c11b0
           try clear p11
           try clear q11
           try clear hx11
           try clear c12
           try clear c12b0
           try clear p12
           try clear q12
           try clear hx12
           try clear c13
           try clear p13
           try clear q13
           try clear hx13
           try clear qi13
           try clear c15
           try clear c15b0
           try clear c17
           try clear c17b0
           try clear c18
           try clear c18b0
           try clear c19
           try clear c21
           try clear c22
           try clear c22b0
           try clear c23
           try clear c23b0
           try clear c26
           try clear c26b0
           try clear c26b1
           try clear c27
           try clear c28
           try clear c29
           try clear c33
           try clear c33b0
           try clear c33b1
           try clear c34
           try clear c36
           try clear c36b0
           try clear c37
           try clear c37b0
           try clear c38
           try clear c38b0
           try clear c39
           try clear c39b0
           try clear c39b1
           try clear c40
           try clear c40b0
           try clear c41
           try clear c41b0
           try clear c42
           try clear c42b0
           try clear c43
           try clear c43b0
           try clear c44
           try clear c44b0
           try clear c45
           try clear c45b0
           try clear c45b1
           try clear c46
           try clear c46b0
           try clear c47
           try clear c47b0
           try clear c53
           try clear c54
           try clear c57
           try clear c58
           try clear c62
           try clear c62b0
           try clear c62b1
           try clear c63
           try clear c63b0
           try clear c63b1
           try clear c64
           try clear p64
           try clear c65
           try clear c65b0
           try clear c65b1
           try clear p66
           try clear q66
           try clear hx66
           try clear qi66
           try clear hf66
           try clear hx109_0
           try clear hx111_0
           try clear hx112_0
           try clear hx120_0
           try clear hx121_0
           try clear hx122_0
           try clear hx123_0
           try clear hx137_0
           try clear hx66_0
           try clear p1
           try clear p10
           try clear p109
           try clear p11
           try clear p111
           try clear p112
           try clear p12
           try clear p120
           try clear p121
           try clear p122
           try clear p123
           try clear p13
           try clear p137
           try clear p2
           try clear p6
           try clear p66
           try clear q1
           try clear q10
           try clear q109
           try clear q11
           try clear q111
           try clear q112
           try clear q12
           try clear q120
           try clear q121
           try clear q122
           try clear q123
           try clear q13
           try clear q137
           try clear q66
           obtain ⟨x4_4,x111_4,rfl,HA,HK4,HO_4,HO_5,BK101,BK102,HB⟩:=hrel
           have hl4_4:=(Kd.R_reads' HO_4.out).1
           rw [hl4_4] at HO_4
           (try simp only [hl4_4])
           (try simp only [hl4_4] at BK101)
           (try simp only [hl4_4] at BK102)
           (try simp only [hl4_4] at HO_5)
           cases gk with
           | zero=>exact absurd HA.out (by simp [q14.l2])
           | succ k4 =>
            have H:=HA.out
            clear HA
            simp only [q14.l2] at H
            by_cases c70:x111_4 < (x5_1.length:Int)
            ·rw [if_pos c70] at H
             have c70b0:decide (x111_4 < (x5_1.length:Int)) = true:=decide_eq_true c70
             have c70b0h:=c70b0
             (try simp only [hl4_4] at c70b0h)
             clear c70
             by_cases c71:0 ≤ x111_4
             ·rw [if_pos c71] at H
              have c71b0:decide (0 ≤ x111_4) = true:=decide_eq_true c71
              clear c71
              by_cases c72:x111_4 < (x5_1.length:Int)
              ·rw [if_pos c72] at H
               have c72b0:decide (x111_4 < (x5_1.length:Int)) = true:=decide_eq_true c72
               have c72b0h:=c72b0
               (try simp only [hl4_4] at c72b0h)
               clear c72
               by_cases c73:(rd x5_1 x111_4) = 0
               ·rw [if_pos c73] at H
                have c73b0:((rd x5_1 x111_4) == 0) = true:=beq_iff_eq.mpr c73
                have c73b1:((rd x5_1 x111_4) != 0) = false:=bne_eq_false_iff_eq.mpr c73
                clear c73
                by_cases c74:x111_4 < (x4_4.length:Int)
                ·rw [if_pos c74] at H
                 have c74b0:decide (x111_4 < (x4_4.length:Int)) = true:=decide_eq_true c74
                 have c74b0h:=c74b0
                 (try simp only [hl4_4] at c74b0h)
                 clear c74
                 by_cases c75:(rd x4_4 x111_4) ≥ 3
                 ·rw [if_pos c75] at H
                  have c75b0:decide (3 ≤ (rd x4_4 x111_4)) = true:=decide_eq_true c75
                  clear c75
                  obtain ⟨y141,hy141⟩:∃ y_:List Int,y_ = (x4_4.set (x111_4:Int).toNat 1):=⟨_,rfl⟩
                  replace H:(q14.l2 k4 y141 x5_1 (x5_1.length:Int) (wrap64 (x111_4 + 1))) = some (r1,r2,r3,r4):=by first|(rw [hy141];with_reducible exact H)|(have H2_:=(Option.bind_some _ _).symm.trans H;rw [hy141];with_reducible exact H2_)|(have H2_:=(Option.bind_some _ _).symm.trans H;with_reducible exact H2_)|with_reducible exact H|(rw [hy141];exact H)|exact H
                  have Ny141:=Aside0.mk hy141
                  clear hy141
                  have H':=Aside0.mk H
                  clear H
                  have p139:0 ≤ (x111_4:Int):=oA
                  have q139:x111_4 < (x5_1.length:Int):=oA
                  obtain ⟨ad139,e139,hx139_0⟩:=Kd.at_int (Kd.R_reads' HO_5.out).2.2 x111_4 p139 q139
                  cases e139
                  replace p139:=eq_true p139
                  replace q139:=eq_true q139
                  have p140:0 ≤ (x111_4:Int):=oA
                  have q140:x111_4 < (x4_4.length:Int):=oA
                  obtain ⟨ad140,e140,hx140_0⟩:=Kd.at_int (Kd.R_reads' HO_4.out).2.2 x111_4 p140 q140
                  obtain rfl:(⟨go66,0,none⟩:Addr) = ad140:=(by injection e140)
                  (first|simp only [add_plain] at hx140_0|simp only [add_at] at hx140_0|simp only [Addr.add,Nat.zero_add] at hx140_0|skip)
                  replace p140:=eq_true p140
                  replace q140:=eq_true q140
                  have p76:0 ≤ (x111_4:Int):=oA
                  have q76:(x111_4:Int) < ((x4_4.length:Int):Int):=oA
                  obtain ⟨hx76_0,hf76_0⟩:=Kd.R_celln 0 HO_4.out (x111_4:Int) p76 q76
                  replace p76:=eq_true p76
                  replace q76:=eq_true q76
                  have HP77:=Kd.R_putg HO_4.out (x111_4:Int) 1
                  go_wp2_with (first|((with_reducible refine gate_store (t:=3) (p:=128) rfl ?_);refine store_event (t:=3) (p:=128) (v:=?vo_w78) (w1:=(wr.setCell ⟨go66,(x111_4:Int).toNat,none⟩ (.int .i64 1))) ?hg ?ho ?hn ?hr ?_;(case ho=>rfl);(case hg=>rfl);(case hn=>rfl);(case hr=>first|(go_simp;done)|(go_simp;rfl));intro w78 hw;have hg:wr.grownBy w78 (some go66):=(by rw [hw];exact HP77.2);have hp_:Kd.R (Kd.int .i64) 3 w78 w.heap.size (fun k_=>some k_ ≠ (.slice (some ad139) x5_1.length co69:Value).ownBlock) (.slice (some ⟨go66,0,none⟩) x4_4.length co66) y141:=(by rw [hw,Ny141.out];exact HP77.1);clear HP77;have n0_:=zk (hp_);have n1_:=zk (Kd.R_after (v:=(.slice (some ⟨go66,0,none⟩) x4_4.length co66)) (v1:=(.slice (some ⟨go66,0,none⟩) x4_4.length co66)) (ok:=(fun _=>True)) (rq (Kd.R_mono HO_5.out (fun _ hk=>⟨trivial,hk⟩))) hg (.inl rfl));have n2_:=zk (blk_grown (g:=gb101) (o:=.cells #[.slice none 0 0,.slice none 0 0] 24 (0,0)) (hq BK101.out) hg (Kd.R_ne HO_4.out BK101.out (by decide)));have n3_:=zk (blk_grown (g:=gb102) (o:=.cells #[.slice none 0 0,.slice none 0 0] 25 (0,0)) (hq BK102.out) hg (Kd.R_ne HO_4.out BK102.out (by decide)));have n4_:=zk ((by rw [hw];exact below_set (HB.out) GB66.out:Below w.heap.size w w78));clear HO_4;clear HO_5;clear BK101;clear BK102;clear HB;have HO_4:=n0_;have HO_5:=n1_;have BK101:=n2_;have BK102:=n3_;have HB:=n4_;clear n0_ n1_ n2_ n3_ n4_;clear hg hw hp_))
                  (try simp only [← hl4_4])
                  go_roundg k4
                  case measure=>have:=HK1.out;have:=HJ7.out;have:=HJ60.out;have:=HK4.out;omega
                  case rel=>exact ⟨(y141),(wrap64 (x111_4 + 1)),oE,H',⟨by have:=HK1.out;have:=HJ7.out;have:=HJ60.out;have:=HK4.out;omega⟩,⟨by (try simp only [hl4_4]);(with_reducible repeat (first|apply Kd.R_alloc|apply Kd.R_drewN|apply Kd.R_drew));exact HO_4.out⟩,⟨by (try simp only [hl4_4]);(with_reducible repeat (first|apply Kd.R_alloc|apply Kd.R_drewN|apply Kd.R_drew));exact Kd.R_mono HO_5.out (fun _ hk=>hk.2)⟩,⟨by (try simp only [hl4_4]);(with_reducible repeat (first|refine blk_drewN ?_ _|refine blk_drew ?_|refine blk_alloc ?_ _));exact BK101.out⟩,⟨by (try simp only [hl4_4]);(with_reducible repeat (first|refine blk_drewN ?_ _|refine blk_drew ?_|refine blk_alloc ?_ _));exact BK102.out⟩,⟨bg HB.out GE101 GE102⟩⟩
                 ·rw [if_neg c75] at H
                  have c75b0:decide (3 ≤ (rd x4_4 x111_4)) = false:=decide_eq_false c75
                  clear c75
                  have H':=Aside0.mk H
                  clear H
                  have p139:0 ≤ (x111_4:Int):=oA
                  have q139:x111_4 < (x5_1.length:Int):=oA
                  obtain ⟨ad139,e139,hx139_0⟩:=Kd.at_int (Kd.R_reads' HO_5.out).2.2 x111_4 p139 q139
                  cases e139
                  replace p139:=eq_true p139
                  replace q139:=eq_true q139
                  have p140:0 ≤ (x111_4:Int):=oA
                  have q140:x111_4 < (x4_4.length:Int):=oA
                  obtain ⟨ad140,e140,hx140_0⟩:=Kd.at_int (Kd.R_reads' HO_4.out).2.2 x111_4 p140 q140
                  obtain rfl:(⟨go66,0,none⟩:Addr) = ad140:=(by injection e140)
                  (first|simp only [add_plain] at hx140_0|simp only [add_at] at hx140_0|simp only [Addr.add,Nat.zero_add] at hx140_0|skip)
                  replace p140:=eq_true p140
                  replace q140:=eq_true q140
                  go_wp2
                  (try simp only [← hl4_4])
                  go_roundg k4
                  case measure=>have:=HK1.out;have:=HJ7.out;have:=HJ60.out;have:=HK4.out;omega
                  case rel=>exact ⟨(x4_4),(wrap64 (x111_4 + 1)),oE,H',⟨by have:=HK1.out;have:=HJ7.out;have:=HJ60.out;have:=HK4.out;omega⟩,⟨by (try simp only [hl4_4]);(with_reducible repeat (first|apply Kd.R_alloc|apply Kd.R_drewN|apply Kd.R_drew));exact HO_4.out⟩,⟨by (try simp only [hl4_4]);(with_reducible repeat (first|apply Kd.R_alloc|apply Kd.R_drewN|apply Kd.R_drew));exact HO_5.out⟩,⟨by (try simp only [hl4_4]);(with_reducible repeat (first|refine blk_drewN ?_ _|refine blk_drew ?_|refine blk_alloc ?_ _));exact BK101.out⟩,⟨by (try simp only [hl4_4]);(with_reducible repeat (first|refine blk_drewN ?_ _|refine blk_drew ?_|refine blk_alloc ?_ _));exact BK102.out⟩,⟨bg HB.out GE101 GE102⟩⟩
                ·rw [if_neg c74] at H
                 exact absurd H (by simp)
               ·rw [if_neg c73] at H
                have c73b0:((rd x5_1 x111_4) == 0) = false:=beq_eq_false_iff_ne.mpr c73
                have c73b1:((rd x5_1 x111_4) != 0) = true:=bne_iff_ne.mpr c73
                have H':=Aside0.mk H
                clear H
                have p139:0 ≤ (x111_4:Int):=oA
                have q139:x111_4 < (x5_1.length:Int):=oA
                obtain ⟨ad139,e139,hx139_0⟩:=Kd.at_int (Kd.R_reads' HO_5.out).2.2 x111_4 p139 q139
                cases e139
                replace p139:=eq_true p139
                replace q139:=eq_true q139
                go_wp2
                (try simp only [← hl4_4])
                go_roundg k4
                case measure=>have:=HK1.out;have:=HJ7.out;have:=HJ60.out;have:=HK4.out;omega
                case rel=>exact ⟨(x4_4),(wrap64 (x111_4 + 1)),oE,H',⟨by have:=HK1.out;have:=HJ7.out;have:=HJ60.out;have:=HK4.out;omega⟩,⟨by (try simp only [hl4_4]);(with_reducible repeat (first|apply Kd.R_alloc|apply Kd.R_drewN|apply Kd.R_drew));exact HO_4.out⟩,⟨by (try simp only [hl4_4]);(with_reducible repeat (first|apply Kd.R_alloc|apply Kd.R_drewN|apply Kd.R_drew));exact HO_5.out⟩,⟨by (try simp only [hl4_4]);(with_reducible repeat (first|refine blk_drewN ?_ _|refine blk_drew ?_|refine blk_alloc ?_ _));exact BK101.out⟩,⟨by (try simp only [hl4_4]);(with_reducible repeat (first|refine blk_drewN ?_ _|refine blk_drew ?_|refine blk_alloc ?_ _));exact BK102.out⟩,⟨bg HB.out GE101 GE102⟩⟩
              ·rw [if_neg c72] at H
               exact absurd H (by simp)
             ·rw [if_neg c71] at H
              exact absurd H (by simp)
            ·rw [if_neg c70] at H
             have c70b0:decide (x111_4 < (x5_1.length:Int)) = false:=decide_eq_false c70
             have c70b0h:=c70b0
             (try simp only [hl4_4] at c70b0h)
             clear c70
             replace H:=Option.bind_eq_some_iff.mp H
             obtain ⟨t142,A790,H⟩:=H
             replace H:((q6.f x5_1).bind fun t145=>(some (x4_4,x5_1,t142,t145))) = some (r1,r2,r3,r4):=H
             have A79:=Aside0.mk A790
             clear A790
             replace H:=Option.bind_eq_some_iff.mp H
             obtain ⟨t145,A800,H⟩:=H
             replace H:(some (x4_4,x5_1,t142,t145)) = some (r1,r2,r3,r4):=H
             have A80:=Aside0.mk A800
             clear A800
             simp only [Option.some.injEq,Prod.mk.injEq] at H
             obtain ⟨rfl,rfl,rfl,rfl⟩:=H
             go_wp2_with (first|((with_reducible refine gate_callee (f:=42) rfl ?_);refine goesL_ (some 134) rfl rfl Try.func42 (by kernel_rfl) rfl #[.slice (some ⟨go66,0,none⟩) x4_4.length co66] rfl oF ?_;(with_reducible refine (q6.calls _ _ x4_4 t142 _ ?side1 ?side2 A79.out).mono ?_);(case side1=>exact cq ((Kd.R_reads' HO_4.out).2.2));(case side2=>exact (Kd.R_reads' HO_4.out).2.1);rintro e w81 ⟨v143,rfl,ho0,hb⟩;refine ⟨_,rfl,?_⟩;have n0_:=zk (Kd.R_elder' (rq HO_4.out) (Kd.R_base ho0) hb);have n1_:=zk (Kd.R_elder' (rq HO_5.out) (Kd.R_base ho0) hb);have n2_:=zk (Kd.R_lower (Kd.R_new' (Kd.R_new' ho0 (Kd.R_lt (rq HO_4.out))) (Kd.R_lt (rq HO_5.out))) (below_size (bg HB.out GE101 GE102)));have n3_:=zk (blk_below (g:=gb101) (o:=.cells #[.slice none 0 0,.slice none 0 0] 24 (0,0)) (hq BK101.out) hb);have n4_:=zk (blk_below (g:=gb102) (o:=.cells #[.slice none 0 0,.slice none 0 0] 25 (0,0)) (hq BK102.out) hb);have n5_:=zk (below_step (bg HB.out GE101 GE102) hb);clear HO_4;clear HO_5;clear BK101;clear BK102;clear HB;have HO_4:=n0_;have HO_5:=n1_;have HO144:=n2_;have BK101:=n3_;have BK102:=n4_;have HB:=n5_;clear n0_ n1_ n2_ n3_ n4_ n5_;(try clear hb);(try clear hb2);(try clear hk);(try clear hi);(try clear ho0))|((with_reducible refine gate_callee (f:=42) rfl ?_);refine goesL_ (some 136) rfl rfl Try.func42 (by kernel_rfl) rfl #[.slice Ao69 x5_1.length co69] rfl oF ?_;(with_reducible refine (q6.calls _ _ x5_1 t145 _ ?side1 ?side2 A80.out).mono ?_);(case side1=>exact cq ((Kd.R_reads' HO_5.out).2.2));(case side2=>exact (Kd.R_reads' HO_5.out).2.1);rintro e w82 ⟨v146,rfl,ho0,hb⟩;refine ⟨_,rfl,?_⟩;have n0_:=zk (Kd.R_elder' (rq HO_4.out) (Kd.R_base ho0) hb);have n1_:=zk (Kd.R_elder' (rq HO_5.out) (Kd.R_base ho0) hb);have n2_:=zk (Kd.R_elder' (rq HO144.out) (Kd.R_base ho0) hb);have n3_:=zk (Kd.R_lower (Kd.R_new' (Kd.R_new' (Kd.R_new' ho0 (Kd.R_lt (rq HO_4.out))) (Kd.R_lt (rq HO_5.out))) (Kd.R_lt (rq HO144.out))) (below_size (bg HB.out GE101 GE102)));have n4_:=zk (blk_below (g:=gb101) (o:=.cells #[.slice none 0 0,.slice none 0 0] 24 (0,0)) (hq BK101.out) hb);have n5_:=zk (blk_below (g:=gb102) (o:=.cells #[.slice none 0 0,.slice none 0 0] 25 (0,0)) (hq BK102.out) hb);have n6_:=zk (below_step (bg HB.out GE101 GE102) hb);clear HO_4;clear HO_5;clear HO144;clear BK101;clear BK102;clear HB;have HO_4:=n0_;have HO_5:=n1_;have HO144:=n2_;have HO147:=n3_;have BK101:=n4_;have BK102:=n5_;have HB:=n6_;clear n0_ n1_ n2_ n3_ n4_ n5_ n6_;(try clear hb);(try clear hb2);(try clear hk);(try clear hi);(try clear ho0);obtain ⟨Ao83,co83,eo83⟩:=Kd.R_slice HO147.out;subst eo83;obtain ⟨Ao84,co84,eo84⟩:=Kd.R_slice HO144.out;subst eo84;have hnb85:=NB101_102.out;have hnc85:=NB102_101.out;have hcz86_0:w82.cell? ⟨gb101,0,none⟩ = some (.slice none 0 0):=(blk_cell BK101.out 0).trans rfl;have hcz86_1:w82.cell? ⟨gb101,1,none⟩ = some (.slice none 0 0):=(blk_cell BK101.out 1).trans rfl;have hfz86_0:=blk_frozen BK101.out 0;have hfz86_1:=blk_frozen BK101.out 1;have hcz87_0:w82.cell? ⟨gb102,0,none⟩ = some (.slice none 0 0):=(blk_cell BK102.out 0).trans rfl;have hcz87_1:w82.cell? ⟨gb102,1,none⟩ = some (.slice none 0 0):=(blk_cell BK102.out 1).trans rfl;have hfz87_0:=blk_frozen BK102.out 0;have hfz87_1:=blk_frozen BK102.out 1))
             refine bodyPost_ret (results_cc rfl _ _ gb101 gb102 24 25 #[.slice (some ⟨go66,0,none⟩) x4_4.length co66,.slice Ao69 x5_1.length co69] #[.slice Ao84 t142.length co84,.slice Ao83 t145.length co83] (0,0) (0,0) _ _ rfl (by (with_reducible repeat (first|refine blk_drewN ?_ _|refine blk_drew ?_|refine blk_alloc ?_ _));refine blk_far ?_ NB101_102.out _;(with_reducible repeat (first|refine blk_drewN ?_ _|refine blk_drew ?_|refine blk_alloc ?_ _));refine blk_far ?_ NB101_102.out _;(with_reducible repeat (first|refine blk_drewN ?_ _|refine blk_drew ?_|refine blk_alloc ?_ _));refine blk_put (cs:=#[.slice (some ⟨go66,0,none⟩) x4_4.length co66,.slice none 0 0]) ?_ 1 _ rfl;(with_reducible repeat (first|refine blk_drewN ?_ _|refine blk_drew ?_|refine blk_alloc ?_ _));refine blk_put (cs:=#[.slice none 0 0,.slice none 0 0]) ?_ 0 _ rfl;(with_reducible repeat (first|refine blk_drewN ?_ _|refine blk_drew ?_|refine blk_alloc ?_ _));exact BK101.out) Try.underlying24 rfl (by kernel_rfl) rfl (by (with_reducible repeat (first|refine blk_drewN ?_ _|refine blk_drew ?_|refine blk_alloc ?_ _));refine blk_put (cs:=#[.slice Ao84 t142.length co84,.slice none 0 0]) ?_ 1 _ rfl;(with_reducible repeat (first|refine blk_drewN ?_ _|refine blk_drew ?_|refine blk_alloc ?_ _));refine blk_put (cs:=#[.slice none 0 0,.slice none 0 0]) ?_ 0 _ rfl;(with_reducible repeat (first|refine blk_drewN ?_ _|refine blk_drew ?_|refine blk_alloc ?_ _));refine blk_far ?_ NB102_101.out _;(with_reducible repeat (first|refine blk_drewN ?_ _|refine blk_drew ?_|refine blk_alloc ?_ _));refine blk_far ?_ NB102_101.out _;(with_reducible repeat (first|refine blk_drewN ?_ _|refine blk_drew ?_|refine blk_alloc ?_ _));exact BK102.out) Try.underlying25 rfl (by kernel_rfl)) rfl ?_
             exact ⟨_,_,_,_,by first|rfl|(simp [errW_none,errW_some] <;> rfl)|(simp [*,errW_none,errW_some] <;> rfl),rq (Kd.R_mono (Kd.R_far (p:=⟨gb102,1,none⟩) (Kd.R_far (p:=⟨gb102,0,none⟩) (Kd.R_far (p:=⟨gb101,1,none⟩) (Kd.R_far (p:=⟨gb101,0,none⟩) (Kd.R_types (Kd.R_types HO_4.out BK101.out (by decide)) BK102.out (by decide)) (fun _ hk=>hk.1.2) (.slice (some ⟨go66,0,none⟩) x4_4.length co66)) (fun _ hk=>hk.1.2) (.slice Ao69 x5_1.length co69)) (fun _ hk=>hk.2) (.slice Ao84 t142.length co84)) (fun _ hk=>hk.2) (.slice Ao83 t145.length co83)) (fun _ hk=>⟨hk.1.1.1.1,⟨hk.1.1.1.2,hk.1.1.2⟩⟩)),rq (Kd.R_mono (Kd.R_far (p:=⟨gb102,1,none⟩) (Kd.R_far (p:=⟨gb102,0,none⟩) (Kd.R_far (p:=⟨gb101,1,none⟩) (Kd.R_far (p:=⟨gb101,0,none⟩) (Kd.R_types (Kd.R_types HO_5.out BK101.out (by decide)) BK102.out (by decide)) (fun _ hk=>hk.1.2) (.slice (some ⟨go66,0,none⟩) x4_4.length co66)) (fun _ hk=>hk.1.2) (.slice Ao69 x5_1.length co69)) (fun _ hk=>hk.2) (.slice Ao84 t142.length co84)) (fun _ hk=>hk.2) (.slice Ao83 t145.length co83)) (fun _ hk=>⟨hk.1.1.1.1,⟨hk.1.1.1.2,hk.1.1.2⟩⟩)),rq (Kd.R_mono (Kd.R_far (p:=⟨gb102,1,none⟩) (Kd.R_far (p:=⟨gb102,0,none⟩) (Kd.R_far (p:=⟨gb101,1,none⟩) (Kd.R_far (p:=⟨gb101,0,none⟩) (Kd.R_types (Kd.R_types HO144.out BK101.out (by decide)) BK102.out (by decide)) (fun _ hk=>hk.1.2) (.slice (some ⟨go66,0,none⟩) x4_4.length co66)) (fun _ hk=>hk.1.2) (.slice Ao69 x5_1.length co69)) (fun _ hk=>hk.2) (.slice Ao84 t142.length co84)) (fun _ hk=>hk.2) (.slice Ao83 t145.length co83)) (fun _ hk=>⟨hk.1.1.1.1.2,⟨hk.1.1.1.2,hk.1.1.2⟩⟩)),rq (Kd.R_mono (Kd.R_far (p:=⟨gb102,1,none⟩) (Kd.R_far (p:=⟨gb102,0,none⟩) (Kd.R_far (p:=⟨gb101,1,none⟩) (Kd.R_far (p:=⟨gb101,0,none⟩) (Kd.R_types (Kd.R_types HO147.out BK101.out (by decide)) BK102.out (by decide)) (fun _ hk=>hk.1.2) (.slice (some ⟨go66,0,none⟩) x4_4.length co66)) (fun _ hk=>hk.1.2) (.slice Ao69 x5_1.length co69)) (fun _ hk=>hk.2) (.slice Ao84 t142.length co84)) (fun _ hk=>hk.2) (.slice Ao83 t145.length co83)) (fun _ hk=>⟨hk.1.1.1.1.2,⟨hk.1.1.1.2,hk.1.1.2⟩⟩)),bg HB.out GE101 GE102⟩
         ·rw [if_neg c65] at H
          exact absurd H (by simp)
        ·replace c64:=Bool.eq_false_iff.mpr c64
         subst c64
         have H1:((q6.f x4_1).bind fun t148=>((q6.f x5_1).bind fun t151=>(some (x4_1,x5_1,t148,t151)))) = some (r1,r2,r3,r4):=by rw [if_neg (show ¬ (false = true) by decide)] at H;exact H
         clear H
         have H:=H1
         clear H1
         replace H:=Option.bind_eq_some_iff.mp H
         obtain ⟨t148,A880,H⟩:=H
         replace H:((q6.f x5_1).bind fun t151=>(some (x4_1,x5_1,t148,t151))) = some (r1,r2,r3,r4):=H
         have A88:=Aside0.mk A880
         clear A880
         replace H:=Option.bind_eq_some_iff.mp H
         obtain ⟨t151,A890,H⟩:=H
         replace H:(some (x4_1,x5_1,t148,t151)) = some (r1,r2,r3,r4):=H
         have A89:=Aside0.mk A890
         clear A890
         simp only [Option.some.injEq,Prod.mk.injEq] at H
         obtain ⟨rfl,rfl,rfl,rfl⟩:=H
         obtain ⟨Ao90,co90,eo90⟩:=Kd.R_slice HO_5.out
         subst eo90
         obtain ⟨Ao91,co91,eo91⟩:=Kd.R_slice HO_4.out
         subst eo91
         go_wp2_with (first|((with_reducible refine gate_callee (f:=42) rfl ?_);refine goesL_ (some 134) rfl rfl Try.func42 (by kernel_rfl) rfl #[.slice Ao91 x4_1.length co91] rfl oF ?_;(with_reducible refine (q6.calls _ _ x4_1 t148 _ ?side1 ?side2 A88.out).mono ?_);(case side1=>exact cq ((Kd.R_reads' HO_4.out).2.2));(case side2=>exact (Kd.R_reads' HO_4.out).2.1);rintro e w92 ⟨v149,rfl,ho0,hb⟩;refine ⟨_,rfl,?_⟩;have n0_:=zk (Kd.R_elder' (rq HO_4.out) (Kd.R_base ho0) hb);have n1_:=zk (Kd.R_elder' (rq HO_5.out) (Kd.R_base ho0) hb);have n2_:=zk (Kd.R_lower (Kd.R_new' (Kd.R_new' ho0 (Kd.R_lt (rq HO_4.out))) (Kd.R_lt (rq HO_5.out))) (below_size (bg HB.out GE101 GE102)));have n3_:=zk (blk_below (g:=gb101) (o:=.cells #[.slice none 0 0,.slice none 0 0] 24 (0,0)) (hq BK101.out) hb);have n4_:=zk (blk_below (g:=gb102) (o:=.cells #[.slice none 0 0,.slice none 0 0] 25 (0,0)) (hq BK102.out) hb);have n5_:=zk (below_step (bg HB.out GE101 GE102) hb);clear HO_4;clear HO_5;clear BK101;clear BK102;clear HB;have HO_4:=n0_;have HO_5:=n1_;have HO150:=n2_;have BK101:=n3_;have BK102:=n4_;have HB:=n5_;clear n0_ n1_ n2_ n3_ n4_ n5_;(try clear hb);(try clear hb2);(try clear hk);(try clear hi);(try clear ho0))|((with_reducible refine gate_callee (f:=42) rfl ?_);refine goesL_ (some 136) rfl rfl Try.func42 (by kernel_rfl) rfl #[.slice Ao90 x5_1.length co90] rfl oF ?_;(with_reducible refine (q6.calls _ _ x5_1 t151 _ ?side1 ?side2 A89.out).mono ?_);(case side1=>exact cq ((Kd.R_reads' HO_5.out).2.2));(case side2=>exact (Kd.R_reads' HO_5.out).2.1);rintro e w93 ⟨v152,rfl,ho0,hb⟩;refine ⟨_,rfl,?_⟩;have n0_:=zk (Kd.R_elder' (rq HO_4.out) (Kd.R_base ho0) hb);have n1_:=zk (Kd.R_elder' (rq HO_5.out) (Kd.R_base ho0) hb);have n2_:=zk (Kd.R_elder' (rq HO150.out) (Kd.R_base ho0) hb);have n3_:=zk (Kd.R_lower (Kd.R_new' (Kd.R_new' (Kd.R_new' ho0 (Kd.R_lt (rq HO_4.out))) (Kd.R_lt (rq HO_5.out))) (Kd.R_lt (rq HO150.out))) (below_size (bg HB.out GE101 GE102)));have n4_:=zk (blk_below (g:=gb101) (o:=.cells #[.slice none 0 0,.slice none 0 0] 24 (0,0)) (hq BK101.out) hb);have n5_:=zk (blk_below (g:=gb102) (o:=.cells #[.slice none 0 0,.slice none 0 0] 25 (0,0)) (hq BK102.out) hb);have n6_:=zk (below_step (bg HB.out GE101 GE102) hb);clear HO_4;clear HO_5;clear HO150;clear BK101;clear BK102;clear HB;have HO_4:=n0_;have HO_5:=n1_;have HO150:=n2_;have HO153:=n3_;have BK101:=n4_;have BK102:=n5_;have HB:=n6_;clear n0_ n1_ n2_ n3_ n4_ n5_ n6_;(try clear hb);(try clear hb2);(try clear hk);(try clear hi);(try clear ho0);obtain ⟨Ao94,co94,eo94⟩:=Kd.R_slice HO153.out;subst eo94;obtain ⟨Ao95,co95,eo95⟩:=Kd.R_slice HO150.out;subst eo95;have hnb96:=NB101_102.out;have hnc96:=NB102_101.out;have hcz97_0:w93.cell? ⟨gb101,0,none⟩ = some (.slice none 0 0):=(blk_cell BK101.out 0).trans rfl;have hcz97_1:w93.cell? ⟨gb101,1,none⟩ = some (.slice none 0 0):=(blk_cell BK101.out 1).trans rfl;have hfz97_0:=blk_frozen BK101.out 0;have hfz97_1:=blk_frozen BK101.out 1;have hcz98_0:w93.cell? ⟨gb102,0,none⟩ = some (.slice none 0 0):=(blk_cell BK102.out 0).trans rfl;have hcz98_1:w93.cell? ⟨gb102,1,none⟩ = some (.slice none 0 0):=(blk_cell BK102.out 1).trans rfl;have hfz98_0:=blk_frozen BK102.out 0;have hfz98_1:=blk_frozen BK102.out 1))
         refine bodyPost_ret (results_cc rfl _ _ gb101 gb102 24 25 #[.slice Ao91 x4_1.length co91,.slice Ao90 x5_1.length co90] #[.slice Ao95 t148.length co95,.slice Ao94 t151.length co94] (0,0) (0,0) _ _ rfl (by (with_reducible repeat (first|refine blk_drewN ?_ _|refine blk_drew ?_|refine blk_alloc ?_ _));refine blk_far ?_ NB101_102.out _;(with_reducible repeat (first|refine blk_drewN ?_ _|refine blk_drew ?_|refine blk_alloc ?_ _));refine blk_far ?_ NB101_102.out _;(with_reducible repeat (first|refine blk_drewN ?_ _|refine blk_drew ?_|refine blk_alloc ?_ _));refine blk_put (cs:=#[.slice Ao91 x4_1.length co91,.slice none 0 0]) ?_ 1 _ rfl;(with_reducible repeat (first|refine blk_drewN ?_ _|refine blk_drew ?_|refine blk_alloc ?_ _));refine blk_put (cs:=#[.slice none 0 0,.slice none 0 0]) ?_ 0 _ rfl;(with_reducible repeat (first|refine blk_drewN ?_ _|refine blk_drew ?_|refine blk_alloc ?_ _));exact BK101.out) Try.underlying24 rfl (by kernel_rfl) rfl (by (with_reducible repeat (first|refine blk_drewN ?_ _|refine blk_drew ?_|refine blk_alloc ?_ _));refine blk_put (cs:=#[.slice Ao95 t148.length co95,.slice none 0 0]) ?_ 1 _ rfl;(with_reducible repeat (first|refine blk_drewN ?_ _|refine blk_drew ?_|refine blk_alloc ?_ _));refine blk_put (cs:=#[.slice none 0 0,.slice none 0 0]) ?_ 0 _ rfl;(with_reducible repeat (first|refine blk_drewN ?_ _|refine blk_drew ?_|refine blk_alloc ?_ _));refine blk_far ?_ NB102_101.out _;(with_reducible repeat (first|refine blk_drewN ?_ _|refine blk_drew ?_|refine blk_alloc ?_ _));refine blk_far ?_ NB102_101.out _;(with_reducible repeat (first|refine blk_drewN ?_ _|refine blk_drew ?_|refine blk_alloc ?_ _));exact BK102.out) Try.underlying25 rfl (by kernel_rfl)) rfl ?_
         exact ⟨_,_,_,_,by first|rfl|(simp [errW_none,errW_some] <;> rfl)|(simp [*,errW_none,errW_some] <;> rfl),rq (Kd.R_mono (Kd.R_far (p:=⟨gb102,1,none⟩) (Kd.R_far (p:=⟨gb102,0,none⟩) (Kd.R_far (p:=⟨gb101,1,none⟩) (Kd.R_far (p:=⟨gb101,0,none⟩) (Kd.R_types (Kd.R_types HO_4.out BK101.out (by decide)) BK102.out (by decide)) (fun _ hk=>hk.1.2) (.slice Ao91 x4_1.length co91)) (fun _ hk=>hk.1.2) (.slice Ao90 x5_1.length co90)) (fun _ hk=>hk.2) (.slice Ao95 t148.length co95)) (fun _ hk=>hk.2) (.slice Ao94 t151.length co94)) (fun _ hk=>⟨hk.1.1.1.1,⟨hk.1.1.1.2,hk.1.1.2⟩⟩)),rq (Kd.R_mono (Kd.R_far (p:=⟨gb102,1,none⟩) (Kd.R_far (p:=⟨gb102,0,none⟩) (Kd.R_far (p:=⟨gb101,1,none⟩) (Kd.R_far (p:=⟨gb101,0,none⟩) (Kd.R_types (Kd.R_types HO_5.out BK101.out (by decide)) BK102.out (by decide)) (fun _ hk=>hk.1.2) (.slice Ao91 x4_1.length co91)) (fun _ hk=>hk.1.2) (.slice Ao90 x5_1.length co90)) (fun _ hk=>hk.2) (.slice Ao95 t148.length co95)) (fun _ hk=>hk.2) (.slice Ao94 t151.length co94)) (fun _ hk=>⟨hk.1.1.1.1,⟨hk.1.1.1.2,hk.1.1.2⟩⟩)),rq (Kd.R_mono (Kd.R_far (p:=⟨gb102,1,none⟩) (Kd.R_far (p:=⟨gb102,0,none⟩) (Kd.R_far (p:=⟨gb101,1,none⟩) (Kd.R_far (p:=⟨gb101,0,none⟩) (Kd.R_types (Kd.R_types HO150.out BK101.out (by decide)) BK102.out (by decide)) (fun _ hk=>hk.1.2) (.slice Ao91 x4_1.length co91)) (fun _ hk=>hk.1.2) (.slice Ao90 x5_1.length co90)) (fun _ hk=>hk.2) (.slice Ao95 t148.length co95)) (fun _ hk=>hk.2) (.slice Ao94 t151.length co94)) (fun _ hk=>⟨hk.1.1.1.1.2,⟨hk.1.1.1.2,hk.1.1.2⟩⟩)),rq (Kd.R_mono (Kd.R_far (p:=⟨gb102,1,none⟩) (Kd.R_far (p:=⟨gb102,0,none⟩) (Kd.R_far (p:=⟨gb101,1,none⟩) (Kd.R_far (p:=⟨gb101,0,none⟩) (Kd.R_types (Kd.R_types HO153.out BK101.out (by decide)) BK102.out (by decide)) (fun _ hk=>hk.1.2) (.slice Ao91 x4_1.length co91)) (fun _ hk=>hk.1.2) (.slice Ao90 x5_1.length co90)) (fun _ hk=>hk.2) (.slice Ao95 t148.length co95)) (fun _ hk=>hk.2) (.slice Ao94 t151.length co94)) (fun _ hk=>⟨hk.1.1.1.1.2,⟨hk.1.1.1.2,hk.1.1.2⟩⟩)),bg HB.out GE101 GE102⟩
end Go.Proofs.Ytnomeokicfpidaa.Q
