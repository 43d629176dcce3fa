-- merged and slimmed by slim.py (a program of this repo)
import Derived.Test.YtnomeokicfpidaaKEnterTells8
namespace Go.Proofs.Ytnomeokicfpidaa.Q
open Go.RowKit Go.Proofs.YtnomeokicfpidaaW.PrintWords Go.Proofs.YtnomeokicfpidaaW.PrintLast Go.Proofs.YtnomeokicfpidaaW.PrintMore
attribute [local go_sem] max2_int min2_int max_two min_two max_three min_three max_four min_four
set_option linter.unusedVariables false
set_option linter.unusedSimpArgs false
mutual
def q0.l0:Nat → Int → List Int → List Int → List Int → Int → Int → List Int → List Int → Option (List Int)
 | 0,_,_,_,_,_,_,_,_=>none
 | k + 1,x1,x2,x3,x9,x22,x23,x102000,x102001=>if x23 < x22 then ((q17.f x3 x23).bind fun t105=>(if 0 ≤ x23 then (if x23 < (x9.length:Int) then (q0.l0 k x1 x2 x3 (x9.set (x23:Int).toNat t105) x22 (wrap64 (x23 + 1)) x102000 x102001) else (none)) else (none))) else (q0.l1 k x1 x9 x2 (x2.length:Int) 0 x102000 x102001)
def q0.l1:Nat → Int → List Int → List Int → Int → Int → List Int → List Int → Option (List Int)
 | 0,_,_,_,_,_,_,_=>none
 | k + 1,x1,x9,x33,x34,x35,x102000,x102001=>if x35 < x34 then (if 0 ≤ x35 then (if x35 < (x33.length:Int) then ((q7.f k x102000 x102001 (rd x33 x35)).bind fun t108=>(q0.l2 k x1 x9 (rd x33 x35) false x33 x34 x35 t108 (t108.length:Int) 0 x102000 x102001)) else (none)) else (none)) else (some x9)
def q0.l2:Nat → Int → List Int → Int → Bool → List Int → Int → Int → List Int → Int → Int → List Int → List Int → Option (List Int)
 | 0,_,_,_,_,_,_,_,_,_,_,_,_=>none
 | k + 1,x1,x9,x12,x13,x33,x34,x35,x41,x42,x43,x102000,x102001=>if x43 < x42 then (if 0 ≤ x43 then (if x43 < (x41.length:Int) then (if x13 = true then (q0.l2 k x1 x9 x12 true x33 x34 x35 x41 x42 (wrap64 (x43 + 1)) x102000 x102001) else (if 0 ≤ (rd x41 x43) then (if (rd x41 x43) < (x102000.length:Int) then (q0.l2 k x1 x9 x12 (decide ((rd x102000 (rd x41 x43)) ≥ 3)) x33 x34 x35 x41 x42 (wrap64 (x43 + 1)) x102000 x102001) else (none)) else (none))) else (none)) else (none)) else (if x13 = true then (if 0 ≤ x12 then (if x12 < (x9.length:Int) then (q0.l3 k x1 (x9.set (x12:Int).toNat 0) x12 x33 x34 x35 (x102000.length:Int) 0 x102000 x102001) else (none)) else (none)) else (q0.l1 k x1 x9 x33 x34 (wrap64 (x35 + 1)) x102000 x102001))
def q0.l3:Nat → Int → List Int → Int → List Int → Int → Int → Int → Int → List Int → List Int → Option (List Int)
 | 0,_,_,_,_,_,_,_,_,_,_=>none
 | k + 1,x1,x9,x12,x33,x34,x35,x64,x65,x102000,x102001=>if x65 < x64 then (if x65 = x12 then (q0.l3 k x1 x9 x12 x33 x34 x35 x64 (wrap64 (x65 + 1)) x102000 x102001) else ((q3.f k x102000 x102001 x65 x12).bind fun t114=>(if t114 = true then (if 0 ≤ x12 then (if x12 < (x9.length:Int) then (if 0 ≤ (IntKind.u64.wrap (x65)) then (q0.l3 k x1 (x9.set (x12:Int).toNat (Go.bits .or .u32 (rd x9 x12) (Go.bits .and .u32 x1 (shl .u32 1 (IntKind.u64.wrap (x65)))))) x12 x33 x34 x35 x64 (wrap64 (x65 + 1)) x102000 x102001) else (none)) else (none)) else (none)) else (q0.l3 k x1 x9 x12 x33 x34 x35 x64 (wrap64 (x65 + 1)) x102000 x102001)))) else (q0.l1 k x1 x9 x33 x34 (wrap64 (x35 + 1)) x102000 x102001)
end
def q0.f (k:Nat) (l0_0:List Int) (l0_1:List Int) (a1:Int) (l2:List Int) (l3:List Int):Option (List Int):=if 0 ≤ (l0_0.length:Int) then (if ((l0_0.length:Int):Int).toNat ≤ 70368744177664 then ((some (List.replicate ((l0_0.length:Int):Int).toNat 0:List Int)).bind fun y102=>(q0.l0 k a1 l2 l3 y102 (y102.length:Int) 0 l0_0 l0_1)) else (none)) else (none)
set_option maxHeartbeats 8000000 in
set_option maxRecDepth 100000 in
theorem q0.calls (k:Nat) (A0_0:Option Addr) (c0_0:Nat) (l0_0:List Int) (A0_1:Option Addr) (c0_1:Nat) (l0_1:List Int) (a1:Int) (A2:Option Addr) (c2:Nat) (l2:List Int) (A3:Option Addr) (c3:Nat) (l3:List Int) (r:List Int) (w:World) (hr0_0:Kd.C (Kd.int .i64) w A0_0 l0_0.length l0_0) (hc0_0:l0_0.length ≤ c0_0) (hr0_1:Kd.C (Kd.int .i64) w A0_1 l0_1.length l0_1) (hc0_1:l0_1.length ≤ c0_1) (hr2:Kd.C (Kd.int .i64) w A2 l2.length l2) (hc2:l2.length ≤ c2) (hr3:Kd.C (Kd.int .u32) w A3 l3.length l3) (hc3:l3.length ≤ c3) (h:q0.f k l0_0 l0_1 a1 l2 l3 = some r) :
  Calls Try.prog 40 #[.agg #[.slice A0_0 l0_0.length c0_0,.slice A0_1 l0_1.length c0_1],.int .u32 a1,.slice A2 l2.length c2,.slice A3 l3.length c3] w fun e w'=>∃ v0_:Value,e = .returned (v0_) ∧ Kd.R (Kd.int .u32) 29 w' w.heap.size (fun _=>True) v0_ r ∧ Below w.heap.size w w':=by
 have hu25:=Try.underlying25
 have HR0_0:=Aside0.mk hr0_0
 have HC0_0:=Aside0.mk hc0_0
 clear hr0_0 hc0_0
 have HR0_1:=Aside0.mk hr0_1
 have HC0_1:=Aside0.mk hc0_1
 clear hr0_1 hc0_1
 have HR2:=Aside0.mk hr2
 have HC2:=Aside0.mk hc2
 clear hr2 hc2
 have HR3:=Aside0.mk hr3
 have HC3:=Aside0.mk hc3
 clear hr3 hc3
 have HB:=zk (Below.refl w.heap.size w)
 have H:(if 0 ≤ (l0_0.length:Int) then (if ((l0_0.length:Int):Int).toNat ≤ 70368744177664 then ((some (List.replicate ((l0_0.length:Int):Int).toNat 0:List Int)).bind fun y102=>(q0.l0 k a1 l2 l3 y102 (y102.length:Int) 0 l0_0 l0_1)) else (none)) else (none)) = some r:=h
 clear h
 by_cases c5:0 ≤ (l0_0.length:Int)
 ·rw [if_pos c5] at H
  have c5b0:=eq_true c5
  have c5b1:decide (0 ≤ (l0_0.length:Int)) = true:=decide_eq_true c5
  clear c5
  by_cases c6:((l0_0.length:Int):Int).toNat ≤ 70368744177664
  ·rw [if_pos c6] at H
   have c6b0:=eq_true c6
   have c6b1:decide (((l0_0.length:Int):Int).toNat ≤ 70368744177664) = true:=decide_eq_true c6
   clear c6
   obtain ⟨y102,hy102⟩:∃ y_:List Int,y_ = (List.replicate ((l0_0.length:Int):Int).toNat 0):=⟨_,rfl⟩
   replace H:(q0.l0 k a1 l2 l3 y102 (y102.length:Int) 0 l0_0 l0_1) = some r:=by first|(rw [hy102];with_reducible exact H)|(have H2_:=(Option.bind_some _ _).symm.trans H;rw [hy102];with_reducible exact H2_)|(have H2_:=(Option.bind_some _ _).symm.trans H;with_reducible exact H2_)|with_reducible exact H|(rw [hy102];exact H)|exact H
   have Ny102:=Aside0.mk hy102
   clear hy102
   have H':=Aside0.mk H
   clear H
   go_enter Try.func40,Try.ntmps40
   go_wp2_with (first|((with_reducible refine gate_dst (N:=4) rfl ?_);refine box_event ?hg (N:=4) ?hd (cs:=#[.slice A0_0 l0_0.length c0_0,.slice A0_1 l0_1.length c0_1]) (t:=25) ?hr ?_;(case hd=>rfl);(case hg=>rfl);(case hr=>first|(go_simp;done)|(go_simp;rfl));intro gb101 hg w7 hbox hb;have n0_:=zk (below_step (bq HB.out) hb);have n1_:=zk (hbox);have n2_:=zk ((by rw [hg];exact (below_size (bq HB.out)):w.heap.size ≤ gb101));have n3_:=zk ((by rw [hg];exact (below_size (bq HB.out)):w.heap.size ≤ gb101));clear HB;have HB:=n0_;have BK101:=n1_;have GW101:=n2_;have GE101:=n3_;clear n0_ n1_ n2_ n3_;clear hb hbox hg;have hcz8_0:w7.cell? ⟨gb101,0,none⟩ = some (.slice A0_0 l0_0.length c0_0):=(blk_cell BK101.out 0).trans rfl;have hcz8_1:w7.cell? ⟨gb101,1,none⟩ = some (.slice A0_1 l0_1.length c0_1):=(blk_cell BK101.out 1).trans rfl;have hfz8_0:=blk_frozen BK101.out 0;have hfz8_1:=blk_frozen BK101.out 1)|((with_reducible refine gate_dst (N:=20) rfl ?_);refine Kd.R_make (Kd.int .u32) _ 29 rfl (N:=20) rfl 42 _ _ rfl (l0_0.length:Int) rfl rfl Try.underlying42 (.int .u32 0) 4 info29 rfl (by decide) (by omega) 0 (ok:=fun _=>True) (okp:=fun _=>True) rfl (fun _ hk=>hk) trivial oA (Nat.le_trans (Nat.mul_le_mul_right _ (oA:(l0_0.length:Int).toNat ≤ 70368744177664)) (by omega)) (Below.refl _ _) (Nat.le_refl _) ?_;intro v103 w9 ho10 hb hg_ hnew_;clear hg_ hnew_;(first|rw [← Ny102.out] at ho10|(simp only [Int.reduceToNat] at ho10;rw [← Ny102.out] at ho10));have n0_:=zk (Kd.R_lower ho10 (below_size (bg HB.out GE101 GE101)));have n1_:=zk (blk_below (g:=gb101) (o:=.cells #[.slice A0_0 l0_0.length c0_0,.slice A0_1 l0_1.length c0_1] 25 (0,0)) (hq BK101.out) hb);have n2_:=zk (below_step (bg HB.out GE101 GE101) hb);clear BK101;clear HB;have HO104:=n0_;have BK101:=n1_;have HB:=n2_;clear n0_ n1_ n2_;clear hb ho10;obtain ⟨Ao11,co11,eo11⟩:=Kd.R_slice HO104.out;subst eo11))
   go_loopg [23] k (fun kq v23 w'=>∃ (x9_1:List Int) (x23_1:Int),v23 = .int .i64 x23_1 ∧ Aside0 (q0.l0 kq a1 l2 l3 x9_1 (y102.length:Int) x23_1 l0_0 l0_1 = some r) ∧ Aside0 (kq ≤ k) ∧ Aside0 (Kd.R (Kd.int .u32) 29 w' w.heap.size (fun _=>True) (.slice Ao11 y102.length co11) x9_1) ∧ Aside0 (w'.heap[gb101]? = some (.cells #[(.slice A0_0 l0_0.length c0_0),(.slice A0_1 l0_1.length c0_1)] 25 (0,0))) ∧ Aside0 (Below w.heap.size w w'))
   case atStart=>exact ⟨(y102),(0),oE,H',⟨Nat.le_refl _⟩,⟨rq HO104.out⟩,⟨hq BK101.out⟩,⟨bg HB.out GE101 GE101⟩⟩
   case round =>
    clear H'
    try clear c2
    try clear p2
    try clear c3
    try clear c4
    try clear c5
    try clear c5b0
    try clear c5b1
    try clear c6
    try clear c6b0
    try clear c6b1
    try clear hcz8_0
    try clear hcz8_1
    try clear hfz8_0
    try clear hfz8_1
    obtain ⟨x9_1,x23_1,rfl,HA,HK1,HO_9,BK101,HB⟩:=hrel
    have hl9_1:=(Kd.R_reads' HO_9.out).1
    rw [hl9_1] at HO_9
    (try simp only [hl9_1])
    (try simp only [hl9_1] at BK101)
    cases gk with
    | zero=>exact absurd HA.out (by simp [q0.l0])
    | succ k1 =>
     have H:=HA.out
     clear HA
     simp only [q0.l0] at H
     by_cases c12:x23_1 < (y102.length:Int)
     ·rw [if_pos c12] at H
      have c12b0:decide (x23_1 < (y102.length:Int)) = true:=decide_eq_true c12
      have c12b0h:=c12b0
      (try simp only [hl9_1] at c12b0h)
      clear c12
      replace H:=Option.bind_eq_some_iff.mp H
      obtain ⟨t105,A130,H⟩:=H
      replace H:(if 0 ≤ x23_1 then (if x23_1 < (x9_1.length:Int) then (q0.l0 k1 a1 l2 l3 (x9_1.set (x23_1:Int).toNat t105) (y102.length:Int) (wrap64 (x23_1 + 1)) l0_0 l0_1) else (none)) else (none)) = some r:=H
      have A13:=Aside0.mk A130
      clear A130
      by_cases c14:0 ≤ x23_1
      ·rw [if_pos c14] at H
       have c14b0:decide (0 ≤ x23_1) = true:=decide_eq_true c14
       clear c14
       by_cases c15:x23_1 < (x9_1.length:Int)
       ·rw [if_pos c15] at H
        have c15b0:decide (x23_1 < (x9_1.length:Int)) = true:=decide_eq_true c15
        have c15b0h:=c15b0
        (try simp only [hl9_1] at c15b0h)
        clear c15
        obtain ⟨y106,hy106⟩:∃ y_:List Int,y_ = (x9_1.set (x23_1:Int).toNat t105):=⟨_,rfl⟩
        replace H:(q0.l0 k1 a1 l2 l3 y106 (y102.length:Int) (wrap64 (x23_1 + 1)) l0_0 l0_1) = some r:=by first|(rw [hy106];with_reducible exact H)|(have H2_:=(Option.bind_some _ _).symm.trans H;rw [hy106];with_reducible exact H2_)|(have H2_:=(Option.bind_some _ _).symm.trans H;with_reducible exact H2_)|with_reducible exact H|(rw [hy106];exact H)|exact H
        have Ny106:=Aside0.mk hy106
        clear hy106
        have H':=Aside0.mk H
        clear H
        go_wp2_with (first|((with_reducible refine gate_callee (f:=57) rfl ?_);refine goesL_ (some 30) rfl rfl Try.func57 (by kernel_rfl) rfl #[.slice A3 l3.length c3,.int .i64 x23_1] rfl oF ?_;(with_reducible refine (q17.calls _ _ l3 x23_1 t105 _ ?side1 ?side2 A13.out).mono ?_);(case side1=>exact cq (Kd.C_below HR3.out HB.out));(case side2=>exact HC3.out);rintro e w' ⟨rfl,⟨nd,rfl⟩⟩;refine ⟨_,rfl,?_⟩;(try (rw [drewN_self wr];generalize hq_:World.drewN wr _ = wr;have n0_:Aside0 (Kd.R (Kd.int .u32) 29 wr w.heap.size (fun _=>True) (.slice Ao11 x9_1.length co11) x9_1):=⟨by rw [← hq_];exact (rq HO_9.out)⟩;have n1_:Aside0 (wr.heap[gb101]? = some (.cells #[.slice A0_0 l0_0.length c0_0,.slice A0_1 l0_1.length c0_1] 25 (0,0))):=⟨by rw [← hq_];exact (hq BK101.out)⟩;have n2_:Aside0 (Below w.heap.size w wr):=⟨by rw [← hq_];exact (bg HB.out GE101 GE101)⟩;clear HO_9 BK101 HB hq_;have HO_9:=n0_;have BK101:=n1_;have HB:=n2_;clear n0_ n1_ n2_));have p16:0 ≤ (x23_1:Int):=oA;have q16:(x23_1:Int) < ((x9_1.length:Int):Int):=oA;obtain ⟨go16,co16,eo16,gb16,gl16,cl16,HG16⟩:=Kd.R_form HO_9.out (by omega);(first|cases eo16|(injection eo16 with ea_ en_ ec_;(first|subst ea_|(injection ea_ with ea_;subst ea_));subst ec_;clear en_));have GB16:=Aside0.mk gb16;have GG16:=Aside0.mk HG16;clear gb16 gl16 HG16;obtain ⟨hx16_0,hf16_0⟩:=Kd.R_celln 0 HO_9.out (x23_1:Int) p16 q16;replace p16:=eq_true p16;replace q16:=eq_true q16;obtain ⟨hy17_,hz17_⟩:=Kd.R_celln 0 HO_9.out (x23_1:Int) oA oA;have HP17:=Kd.R_putg HO_9.out (x23_1:Int) t105)|((with_reducible refine gate_store (t:=29) (p:=31) rfl ?_);refine store_event (t:=29) (p:=31) (v:=?vo_w18) (w1:=(wr.setCell ⟨go16,(x23_1:Int).toNat,none⟩ (.int .u32 t105))) ?hg ?ho ?hn ?hr ?_;(case ho=>rfl);(case hg=>rfl);(case hn=>rfl);(case hr=>first|(go_simp;done)|(go_simp;rfl));intro w18 hw;have hg:wr.grownBy w18 (some go16):=(by rw [hw];exact HP17.2);have hp_:Kd.R (Kd.int .u32) 29 w18 w.heap.size (fun _=>True) (.slice (some ⟨go16,0,none⟩) x9_1.length co11) y106:=(by rw [hw,Ny106.out];exact HP17.1);clear HP17;have n0_:=zk (hp_);have n1_:=zk (blk_grown (g:=gb101) (o:=.cells #[.slice A0_0 l0_0.length c0_0,.slice A0_1 l0_1.length c0_1] 25 (0,0)) (hq BK101.out) hg (Kd.R_ne HO_9.out BK101.out (by decide)));have n2_:=zk ((by rw [hw];exact below_set (HB.out) GB16.out:Below w.heap.size w w18));clear HO_9;clear BK101;clear HB;have HO_9:=n0_;have BK101:=n1_;have HB:=n2_;clear n0_ n1_ n2_;clear hg hw hp_))
        (try simp only [← hl9_1])
        go_roundg k1
        case measure=>have:=HK1.out;omega
        case rel=>exact ⟨(y106),(wrap64 (x23_1 + 1)),oE,H',⟨by have:=HK1.out;omega⟩,⟨by (try simp only [hl9_1]);(with_reducible repeat (first|apply Kd.R_alloc|apply Kd.R_drewN|apply Kd.R_drew));exact HO_9.out⟩,⟨by (try simp only [hl9_1]);(with_reducible repeat (first|refine blk_drewN ?_ _|refine blk_drew ?_|refine blk_alloc ?_ _));exact BK101.out⟩,⟨bg HB.out GE101 GE101⟩⟩
       ·rw [if_neg c15] at H
        exact absurd H (by simp)
      ·rw [if_neg c14] at H
       exact absurd H (by simp)
     ·rw [if_neg c12] at H
      have c12b0:decide (x23_1 < (y102.length:Int)) = false:=decide_eq_false c12
      have c12b0h:=c12b0
      (try simp only [hl9_1] at c12b0h)
      clear c12
      have H':=Aside0.mk H
      clear H
      go_wp2
      go_loopg [35] k1 (fun kq v35 w'=>∃ (x9_2:List Int) (x35_2:Int),v35 = .int .i64 x35_2 ∧ Aside0 (q0.l1 kq a1 x9_2 l2 (l2.length:Int) x35_2 l0_0 l0_1 = some r) ∧ Aside0 (kq ≤ k1) ∧ Aside0 (Kd.R (Kd.int .u32) 29 w' w.heap.size (fun _=>True) (.slice Ao11 x9_1.length co11) x9_2) ∧ Aside0 (w'.heap[gb101]? = some (.cells #[(.slice A0_0 l0_0.length c0_0),(.slice A0_1 l0_1.length c0_1)] 25 (0,0))) ∧ Aside0 (Below w.heap.size w w'))
      case atStart=>exact ⟨(x9_1),(0),oE,H',⟨Nat.le_refl _⟩,⟨by (try simp only [hl9_1]);(with_reducible repeat (first|apply Kd.R_alloc|apply Kd.R_drewN|apply Kd.R_drew));exact HO_9.out⟩,⟨by (try simp only [hl9_1]);(with_reducible repeat (first|refine blk_drewN ?_ _|refine blk_drew ?_|refine blk_alloc ?_ _));exact BK101.out⟩,⟨bg HB.out GE101 GE101⟩⟩
      case round =>
       clear H'
       try clear c1
       try clear p1
       try clear q1
       try clear hx1
       try clear c2
       try clear p2
       try clear c3
       try clear c4
       try clear c5
       try clear c5b0
       try clear c5b1
       try clear c6
       try clear c6b0
       try clear c6b1
       try clear p6
       try clear c12
       try clear c12b0
       try clear c14
       try clear c14b0
       try clear c15
       try clear c15b0
       try clear p16
       try clear q16
       try clear hx16
       try clear hf16
       try clear hcz8_0
       try clear hcz8_1
       try clear hfz8_0
       try clear hfz8_1
       try clear hx16_0
       try clear p16
       try clear p2
       try clear q16
       obtain ⟨x9_2,x35_2,rfl,HA,HK2,HO_9,BK101,HB⟩:=hrel
       have hl9_2:=(Kd.R_reads' HO_9.out).1
       rw [hl9_2] at HO_9
       (try simp only [hl9_2])
       (try simp only [hl9_2] at BK101)
       cases gk with
       | zero=>exact absurd HA.out (by simp [q0.l1])
       | succ k2 =>
        have H:=HA.out
        clear HA
        simp only [q0.l1] at H
        by_cases c19:x35_2 < (l2.length:Int)
        ·rw [if_pos c19] at H
         have c19b0:decide (x35_2 < (l2.length:Int)) = true:=decide_eq_true c19
         have c19b0h:=c19b0
         (try simp only [hl9_1,hl9_2] at c19b0h)
         clear c19
         by_cases c20:0 ≤ x35_2
         ·rw [if_pos c20] at H
          have c20b0:decide (0 ≤ x35_2) = true:=decide_eq_true c20
          clear c20
          by_cases c21:x35_2 < (l2.length:Int)
          ·rw [if_pos c21] at H
           have c21b0:decide (x35_2 < (l2.length:Int)) = true:=decide_eq_true c21
           have c21b0h:=c21b0
           (try simp only [hl9_1,hl9_2] at c21b0h)
           clear c21
           replace H:=Option.bind_eq_some_iff.mp H
           obtain ⟨t108,A220,H⟩:=H
           replace H:(q0.l2 k2 a1 x9_2 (rd l2 x35_2) false l2 (l2.length:Int) x35_2 t108 (t108.length:Int) 0 l0_0 l0_1) = some r:=H
           have A22:=Aside0.mk A220
           clear A220
           have H':=Aside0.mk H
           clear H
           have p107:0 ≤ (x35_2:Int):=oA
           have q107:x35_2 < (l2.length:Int):=oA
           obtain ⟨ad107,e107,hx107_0⟩:=Kd.at_int HR2.out x35_2 p107 q107
           cases e107
           replace hx107_0:=(HB.out.cell (World.block_lt_of_cell? w _ hx107_0)).trans hx107_0
           replace p107:=eq_true p107
           replace q107:=eq_true q107
           have hcz23_0:wr.cell? ⟨gb101,0,none⟩ = some (.slice A0_0 l0_0.length c0_0):=(blk_cell BK101.out 0).trans rfl
           have hcz23_1:wr.cell? ⟨gb101,1,none⟩ = some (.slice A0_1 l0_1.length c0_1):=(blk_cell BK101.out 1).trans rfl
           have hfz23_0:=blk_frozen BK101.out 0
           have hfz23_1:=blk_frozen BK101.out 1
           go_wp2_with (first|((with_reducible refine gate_callee (f:=46) rfl ?_);refine goesL_ (some 41) rfl rfl Try.func46 (by kernel_rfl) rfl #[.agg #[.slice A0_0 l0_0.length c0_0,.slice A0_1 l0_1.length c0_1],.int .i64 (rd l2 x35_2)] rfl oF ?_;(with_reducible refine (q7.calls k2 _ _ l0_0 _ _ l0_1 (rd l2 x35_2) t108 _ ?side1 ?side2 ?side3 ?side4 A22.out).mono ?_);(case side1=>exact cq (Kd.C_below HR0_0.out HB.out));(case side2=>exact HC0_0.out);(case side3=>exact cq (Kd.C_below HR0_1.out HB.out));(case side4=>exact HC0_1.out);rintro e w24 ⟨v109,rfl,ho0,hb⟩;refine ⟨_,rfl,?_⟩;have n0_:=zk (Kd.R_below (rq HO_9.out) hb);have n1_:=zk (Kd.R_lower ho0 (below_size (bg HB.out GE101 GE101)));have n2_:=zk (blk_below (g:=gb101) (o:=.cells #[.slice A0_0 l0_0.length c0_0,.slice A0_1 l0_1.length c0_1] 25 (0,0)) (hq BK101.out) hb);have n3_:=zk (below_step (bg HB.out GE101 GE101) hb);clear HO_9;clear BK101;clear HB;have HO_9:=n0_;have HO110:=n1_;have BK101:=n2_;have HB:=n3_;clear n0_ n1_ n2_ n3_;(try clear hb);(try clear hb2);(try clear hk);(try clear hi);(try clear ho0);obtain ⟨Ao25,co25,eo25⟩:=Kd.R_slice HO110.out;subst eo25))
           go_loopg [13,43] k2 (fun kq v13 v43 w'=>∃ (x13_3:Bool) (x43_3:Int),v13 = .bool x13_3 ∧ v43 = .int .i64 x43_3 ∧ Aside0 (q0.l2 kq a1 x9_2 (rd l2 x35_2) x13_3 l2 (l2.length:Int) x35_2 t108 (t108.length:Int) x43_3 l0_0 l0_1 = some r) ∧ Aside0 (kq ≤ k2) ∧ Aside0 (Kd.R (Kd.int .u32) 29 w' w.heap.size (fun _=>True) (.slice Ao11 x9_2.length co11) x9_2) ∧ Aside0 (Kd.R (Kd.int .i64) 3 w' w.heap.size (fun _=>True) (.slice Ao25 t108.length co25) t108) ∧ Aside0 (w'.heap[gb101]? = some (.cells #[(.slice A0_0 l0_0.length c0_0),(.slice A0_1 l0_1.length c0_1)] 25 (0,0))) ∧ Aside0 (Below w.heap.size w w'))
           case atStart=>exact ⟨(false),(0),oE,oE,H',⟨Nat.le_refl _⟩,⟨by (try simp only [hl9_1]);(try simp only [hl9_2]);(with_reducible repeat (first|apply Kd.R_alloc|apply Kd.R_drewN|apply Kd.R_drew));exact HO_9.out⟩,⟨by (try simp only [hl9_1]);(try simp only [hl9_2]);(with_reducible repeat (first|apply Kd.R_alloc|apply Kd.R_drewN|apply Kd.R_drew));exact HO110.out⟩,⟨by (try simp only [hl9_1]);(try simp only [hl9_2]);(with_reducible repeat (first|refine blk_drewN ?_ _|refine blk_drew ?_|refine blk_alloc ?_ _));exact BK101.out⟩,⟨bg HB.out GE101 GE101⟩⟩
           case round =>
            clear H'
            try clear c1
            try clear p1
            try clear q1
            try clear hx1
            try clear c2
            try clear p2
            try clear c3
            try clear c4
            try clear c5
            try clear c5b0
            try clear c5b1
            try clear c6
            try clear c6b0
            try clear c6b1
            try clear p6
            try clear p10
            try clear q10
            try clear hx10
            try clear c12
            try clear c12b0
            try clear c14
            try clear c14b0
            try clear c15
            try clear c15b0
            try clear p16
            try clear q16
            try clear hx16
            try clear hf16
            try clear c19
            try clear c19b0
            try clear c20
            try clear c20b0
            try clear c21
            try clear c21b0
            try clear hcz23_0
            try clear hcz23_1
            try clear hcz8_0
            try clear hcz8_1
            try clear hfz23_0
            try clear hfz23_1
            try clear hfz8_0
            try clear hfz8_1
            try clear hx107_0
            try clear hx16_0
            try clear p1
            try clear p107
            try clear p16
            try clear p2
            try clear p6
            try clear q1
            try clear q107
            try clear q16
            obtain ⟨x13_3,x43_3,rfl,rfl,HA,HK3,HO_9,HO_41,BK101,HB⟩:=hrel
            cases gk with
            | zero=>exact absurd HA.out (by simp [q0.l2])
            | succ k3 =>
             have H:=HA.out
             clear HA
             simp only [q0.l2] at H
             by_cases c26:x43_3 < (t108.length:Int)
             ·rw [if_pos c26] at H
              have c26b0:decide (x43_3 < (t108.length:Int)) = true:=decide_eq_true c26
              have c26b0h:=c26b0
              (try simp only [hl9_1,hl9_2] at c26b0h)
              clear c26
              by_cases c27:0 ≤ x43_3
              ·rw [if_pos c27] at H
               have c27b0:decide (0 ≤ x43_3) = true:=decide_eq_true c27
               clear c27
               by_cases c28:x43_3 < (t108.length:Int)
               ·rw [if_pos c28] at H
                have c28b0:decide (x43_3 < (t108.length:Int)) = true:=decide_eq_true c28
                have c28b0h:=c28b0
                (try simp only [hl9_1,hl9_2] at c28b0h)
                clear c28
                by_cases c29:x13_3 = true
                ·subst c29
                 have H1:(q0.l2 k3 a1 x9_2 (rd l2 x35_2) true l2 (l2.length:Int) x35_2 t108 (t108.length:Int) (wrap64 (x43_3 + 1)) l0_0 l0_1) = some r:=by rw [if_pos rfl] at H;exact H
                 clear H
                 have H:=H1
                 clear H1
                 have H':=Aside0.mk H
                 clear H
                 have p111:0 ≤ (x43_3:Int):=oA
                 have q111:x43_3 < (t108.length:Int):=oA
                 obtain ⟨ad111,e111,hx111_0⟩:=Kd.at_int (Kd.R_reads' HO_41.out).2.2 x43_3 p111 q111
                 cases e111
                 replace p111:=eq_true p111
                 replace q111:=eq_true q111
                 go_wp2
                 go_roundg k3
                 case measure=>have:=HK1.out;have:=HK2.out;have:=HK3.out;omega
                 case rel=>exact ⟨(true),(wrap64 (x43_3 + 1)),oE,oE,H',⟨by have:=HK1.out;have:=HK2.out;have:=HK3.out;omega⟩,⟨by (try simp only [hl9_1]);(try simp only [hl9_2]);(with_reducible repeat (first|apply Kd.R_alloc|apply Kd.R_drewN|apply Kd.R_drew));exact HO_9.out⟩,⟨by (try simp only [hl9_1]);(try simp only [hl9_2]);(with_reducible repeat (first|apply Kd.R_alloc|apply Kd.R_drewN|apply Kd.R_drew));exact HO_41.out⟩,⟨by (try simp only [hl9_1]);(try simp only [hl9_2]);(with_reducible repeat (first|refine blk_drewN ?_ _|refine blk_drew ?_|refine blk_alloc ?_ _));exact BK101.out⟩,⟨bg HB.out GE101 GE101⟩⟩
                ·replace c29:=Bool.eq_false_iff.mpr c29
                 subst c29
                 have H1:(if 0 ≤ (rd t108 x43_3) then (if (rd t108 x43_3) < (l0_0.length:Int) then (q0.l2 k3 a1 x9_2 (rd l2 x35_2) (decide ((rd l0_0 (rd t108 x43_3)) ≥ 3)) l2 (l2.length:Int) x35_2 t108 (t108.length:Int) (wrap64 (x43_3 + 1)) l0_0 l0_1) else (none)) else (none)) = some r:=by rw [if_neg (show ¬ (false = true) by decide)] at H;exact H
                 clear H
                 have H:=H1
                 clear H1
                 by_cases c30:0 ≤ (rd t108 x43_3)
                 ·rw [if_pos c30] at H
                  have c30b0:decide (0 ≤ (rd t108 x43_3)) = true:=decide_eq_true c30
                  clear c30
                  by_cases c31:(rd t108 x43_3) < (l0_0.length:Int)
                  ·rw [if_pos c31] at H
                   have c31b0:decide ((rd t108 x43_3) < (l0_0.length:Int)) = true:=decide_eq_true c31
                   have c31b0h:=c31b0
                   (try simp only [hl9_1,hl9_2] at c31b0h)
                   clear c31
                   have H':=Aside0.mk H
                   clear H
                   have p111:0 ≤ (x43_3:Int):=oA
                   have q111:x43_3 < (t108.length:Int):=oA
                   obtain ⟨ad111,e111,hx111_0⟩:=Kd.at_int (Kd.R_reads' HO_41.out).2.2 x43_3 p111 q111
                   cases e111
                   replace p111:=eq_true p111
                   replace q111:=eq_true q111
                   have hcz32_0:wr.cell? ⟨gb101,0,none⟩ = some (.slice A0_0 l0_0.length c0_0):=(blk_cell BK101.out 0).trans rfl
                   have hcz32_1:wr.cell? ⟨gb101,1,none⟩ = some (.slice A0_1 l0_1.length c0_1):=(blk_cell BK101.out 1).trans rfl
                   have hfz32_0:=blk_frozen BK101.out 0
                   have hfz32_1:=blk_frozen BK101.out 1
                   have p112:0 ≤ ((rd t108 x43_3):Int):=oA
                   have q112:(rd t108 x43_3) < (l0_0.length:Int):=oA
                   obtain ⟨ad112,e112,hx112_0⟩:=Kd.at_int HR0_0.out (rd t108 x43_3) p112 q112
                   cases e112
                   replace hx112_0:=(HB.out.cell (World.block_lt_of_cell? w _ hx112_0)).trans hx112_0
                   replace p112:=eq_true p112
                   replace q112:=eq_true q112
                   go_wp2
                   go_roundg k3
                   case measure=>have:=HK1.out;have:=HK2.out;have:=HK3.out;omega
                   case rel=>exact ⟨(decide ((rd l0_0 (rd t108 x43_3)) ≥ 3)),(wrap64 (x43_3 + 1)),oE,oE,H',⟨by have:=HK1.out;have:=HK2.out;have:=HK3.out;omega⟩,⟨by (try simp only [hl9_1]);(try simp only [hl9_2]);(with_reducible repeat (first|apply Kd.R_alloc|apply Kd.R_drewN|apply Kd.R_drew));exact HO_9.out⟩,⟨by (try simp only [hl9_1]);(try simp only [hl9_2]);(with_reducible repeat (first|apply Kd.R_alloc|apply Kd.R_drewN|apply Kd.R_drew));exact HO_41.out⟩,⟨by (try simp only [hl9_1]);(try simp only [hl9_2]);(with_reducible repeat (first|refine blk_drewN ?_ _|refine blk_drew ?_|refine blk_alloc ?_ _));exact BK101.out⟩,⟨bg HB.out GE101 GE101⟩⟩
                  ·rw [if_neg c31] at H
                   exact absurd H (by simp)
                 ·rw [if_neg c30] at H
                  exact absurd H (by simp)
               ·rw [if_neg c28] at H
                exact absurd H (by simp)
              ·rw [if_neg c27] at H
               exact absurd H (by simp)
             ·rw [if_neg c26] at H
              have c26b0:decide (x43_3 < (t108.length:Int)) = false:=decide_eq_false c26
              have c26b0h:=c26b0
              (try simp only [hl9_1,hl9_2] at c26b0h)
              clear c26
              by_cases c33:x13_3 = true
              ·subst c33
               have H1:(if 0 ≤ (rd l2 x35_2) then (if (rd l2 x35_2) < (x9_2.length:Int) then (q0.l3 k3 a1 (x9_2.set ((rd l2 x35_2):Int).toNat 0) (rd l2 x35_2) l2 (l2.length:Int) x35_2 (l0_0.length:Int) 0 l0_0 l0_1) else (none)) else (none)) = some r:=by rw [if_pos rfl] at H;exact H
               clear H
               have H:=H1
               clear H1
               by_cases c34:0 ≤ (rd l2 x35_2)
               ·rw [if_pos c34] at H
                have c34b0:decide (0 ≤ (rd l2 x35_2)) = true:=decide_eq_true c34
                clear c34
                by_cases c35:(rd l2 x35_2) < (x9_2.length:Int)
                ·rw [if_pos c35] at H
                 have c35b0:decide ((rd l2 x35_2) < (x9_2.length:Int)) = true:=decide_eq_true c35
                 have c35b0h:=c35b0
                 (try simp only [hl9_1,hl9_2] at c35b0h)
                 clear c35
                 obtain ⟨y113,hy113⟩:∃ y_:List Int,y_ = (x9_2.set ((rd l2 x35_2):Int).toNat 0):=⟨_,rfl⟩
                 replace H:(q0.l3 k3 a1 y113 (rd l2 x35_2) l2 (l2.length:Int) x35_2 (l0_0.length:Int) 0 l0_0 l0_1) = some r:=by first|(rw [hy113];with_reducible exact H)|(have H2_:=(Option.bind_some _ _).symm.trans H;rw [hy113];with_reducible exact H2_)|(have H2_:=(Option.bind_some _ _).symm.trans H;with_reducible exact H2_)|with_reducible exact H|(rw [hy113];exact H)|exact H
                 have Ny113:=Aside0.mk hy113
                 clear hy113
                 have H':=Aside0.mk H
                 clear H
                 have p36:0 ≤ ((rd l2 x35_2):Int):=oA
                 have q36:((rd l2 x35_2):Int) < ((x9_2.length:Int):Int):=oA
                 obtain ⟨go36,co36,eo36,gb36,gl36,cl36,HG36⟩:=Kd.R_form HO_9.out (by omega)
                 (first|cases eo36|(injection eo36 with ea_ en_ ec_;(first|subst ea_|(injection ea_ with ea_;subst ea_));subst ec_;clear en_))
                 have GB36:=Aside0.mk gb36
                 have GG36:=Aside0.mk HG36
                 clear gb36 gl36 HG36
                 obtain ⟨hx36_0,hf36_0⟩:=Kd.R_celln 0 HO_9.out ((rd l2 x35_2):Int) p36 q36
                 replace p36:=eq_true p36
                 replace q36:=eq_true q36
                 have HP37:=Kd.R_putg HO_9.out ((rd l2 x35_2):Int) 0
                 go_wp2_with (first|((with_reducible refine gate_store (t:=29) (p:=61) rfl ?_);refine store_event (t:=29) (p:=61) (v:=?vo_w38) (w1:=(wr.setCell ⟨go36,((rd l2 x35_2):Int).toNat,none⟩ (.int .u32 0))) ?hg ?ho ?hn ?hr ?_;(case ho=>rfl);(case hg=>rfl);(case hn=>rfl);(case hr=>first|(go_simp;done)|(go_simp;rfl));intro w38 hw;have hg:wr.grownBy w38 (some go36):=(by rw [hw];exact HP37.2);have hp_:Kd.R (Kd.int .u32) 29 w38 w.heap.size (fun _=>True) (.slice (some ⟨go36,0,none⟩) x9_2.length co11) y113:=(by rw [hw,Ny113.out];exact HP37.1);clear HP37;have n0_:=zk (hp_);have n1_:=zk (Kd.R_over' (v:=(.slice (some ⟨go36,0,none⟩) x9_2.length co11)) (rq HO_41.out) (Kd.R_typed HO_9.out) (by decide) hg);have n2_:=zk (blk_grown (g:=gb101) (o:=.cells #[.slice A0_0 l0_0.length c0_0,.slice A0_1 l0_1.length c0_1] 25 (0,0)) (hq BK101.out) hg (Kd.R_ne HO_9.out BK101.out (by decide)));have n3_:=zk ((by rw [hw];exact below_set (HB.out) GB36.out:Below w.heap.size w w38));clear HO_9;clear HO_41;clear BK101;clear HB;have HO_9:=n0_;have HO_41:=n1_;have BK101:=n2_;have HB:=n3_;clear n0_ n1_ n2_ n3_;clear hg hw hp_;have hcz39_0:w38.cell? ⟨gb101,0,none⟩ = some (.slice A0_0 l0_0.length c0_0):=(blk_cell BK101.out 0).trans rfl;have hcz39_1:w38.cell? ⟨gb101,1,none⟩ = some (.slice A0_1 l0_1.length c0_1):=(blk_cell BK101.out 1).trans rfl;have hfz39_0:=blk_frozen BK101.out 0;have hfz39_1:=blk_frozen BK101.out 1))
                 go_loopg [65] k3 (fun kq v65 w'=>∃ (x9_4:List Int) (x65_4:Int),v65 = .int .i64 x65_4 ∧ Aside0 (q0.l3 kq a1 x9_4 (rd l2 x35_2) l2 (l2.length:Int) x35_2 (l0_0.length:Int) x65_4 l0_0 l0_1 = some r) ∧ Aside0 (kq ≤ k3) ∧ Aside0 (Kd.R (Kd.int .u32) 29 w' w.heap.size (fun _=>True) (.slice (some ⟨go36,0,none⟩) x9_2.length co11) x9_4) ∧ Aside0 (w'.heap[gb101]? = some (.cells #[(.slice A0_0 l0_0.length c0_0),(.slice A0_1 l0_1.length c0_1)] 25 (0,0))) ∧ Aside0 (Below w.heap.size w w'))
                 case atStart=>exact ⟨(y113),(0),oE,H',⟨Nat.le_refl _⟩,⟨by (try simp only [hl9_1]);(try simp only [hl9_2]);(with_reducible repeat (first|apply Kd.R_alloc|apply Kd.R_drewN|apply Kd.R_drew));exact HO_9.out⟩,⟨by (try simp only [hl9_1]);(try simp only [hl9_2]);(with_reducible repeat (first|refine blk_drewN ?_ _|refine blk_drew ?_|refine blk_alloc ?_ _));exact BK101.out⟩,⟨bg HB.out GE101 GE101⟩⟩
                 case round =>
                  clear H'
                  try clear c1
                  try clear p1
                  try clear q1
                  try clear hx1
                  try clear c2
                  try clear p2
                  try clear c3
                  try clear p3
                  try clear q3
                  try clear hx3
                  try clear c4
                  try clear c5
                  try clear c5b0
                  try clear c5b1
                  try clear c6
                  try clear c6b0
                  try clear c6b1
                  try clear p6
                  try clear p10
                  try clear q10
                  try clear hx10
                  try clear p11
                  try clear q11
                  try clear hx11
                  try clear c12
                  try clear c12b0
                  try clear c14
                  try clear c14b0
                  try clear c15
                  try clear c15b0
                  try clear p16
                  try clear q16
                  try clear hx16
                  try clear hf16
                  try clear c19
                  try clear c19b0
                  try clear c20
                  try clear c20b0
                  try clear c21
                  try clear c21b0
                  try clear c26
                  try clear c26b0
                  try clear c27
                  try clear c27b0
                  try clear c28
                  try clear c28b0
                  try clear c29
                  try clear c30
                  try clear c30b0
                  try clear c31
                  try clear c31b0
                  try clear c33
                  try clear c34
                  try clear c34b0
                  try clear c35
                  try clear c35b0
                  try clear p36
                  try clear q36
                  try clear hx36
                  try clear hf36
                  try clear hcz23_0
                  try clear hcz23_1
                  try clear hcz32_0
                  try clear hcz32_1
                  try clear hcz39_0
                  try clear hcz39_1
                  try clear hcz8_0
                  try clear hcz8_1
                  try clear hfz23_0
                  try clear hfz23_1
                  try clear hfz32_0
                  try clear hfz32_1
                  try clear hfz39_0
                  try clear hfz39_1
                  try clear hfz8_0
                  try clear hfz8_1
                  try clear hx107_0
                  try clear hx111_0
                  try clear hx112_0
                  try clear hx16_0
                  try clear hx36_0
                  try clear p1
                  try clear p10
                  try clear p107
                  try clear p111
                  try clear p112
                  try clear p16
                  try clear p2
                  try clear p36
                  try clear p6
                  try clear q1
                  try clear q10
                  try clear q107
                  try clear q111
                  try clear q112
                  try clear q16
                  try clear q36
                  obtain ⟨x9_4,x65_4,rfl,HA,HK4,HO_9,BK101,HB⟩:=hrel
                  have hl9_4:=(Kd.R_reads' HO_9.out).1
                  rw [hl9_4] at HO_9
                  (try simp only [hl9_4])
                  (try simp only [hl9_4] at BK101)
                  cases gk with
                  | zero=>exact absurd HA.out (by simp [q0.l3])
                  | succ k4 =>
                   have H:=HA.out
                   clear HA
                   simp only [q0.l3] at H
                   by_cases c40:x65_4 < (l0_0.length:Int)
                   ·rw [if_pos c40] at H
                    have c40b0:decide (x65_4 < (l0_0.length:Int)) = true:=decide_eq_true c40
                    have c40b0h:=c40b0
                    (try simp only [hl9_1,hl9_2,hl9_4] at c40b0h)
                    clear c40
                    by_cases c41:x65_4 = (rd l2 x35_2)
                    ·rw [if_pos c41] at H
                     have c41b0:(x65_4 == (rd l2 x35_2)) = true:=beq_iff_eq.mpr c41
                     have c41b1:(x65_4 != (rd l2 x35_2)) = false:=bne_eq_false_iff_eq.mpr c41
                     clear c41
                     have H':=Aside0.mk H
                     clear H
                     go_wp2
                     (try simp only [← hl9_4])
                     go_roundg k4
                     case measure=>have:=HK1.out;have:=HK2.out;have:=HK3.out;have:=HK4.out;omega
                     case rel=>exact ⟨(x9_4),(wrap64 (x65_4 + 1)),oE,H',⟨by have:=HK1.out;have:=HK2.out;have:=HK3.out;have:=HK4.out;omega⟩,⟨by (try simp only [hl9_1]);(try simp only [hl9_2]);(try simp only [hl9_4]);(with_reducible repeat (first|apply Kd.R_alloc|apply Kd.R_drewN|apply Kd.R_drew));exact HO_9.out⟩,⟨by (try simp only [hl9_1]);(try simp only [hl9_2]);(try simp only [hl9_4]);(with_reducible repeat (first|refine blk_drewN ?_ _|refine blk_drew ?_|refine blk_alloc ?_ _));exact BK101.out⟩,⟨bg HB.out GE101 GE101⟩⟩
                    ·rw [if_neg c41] at H
                     have c41b0:(x65_4 == (rd l2 x35_2)) = false:=beq_eq_false_iff_ne.mpr c41
                     have c41b1:(x65_4 != (rd l2 x35_2)) = true:=bne_iff_ne.mpr c41
                     replace H:=Option.bind_eq_some_iff.mp H
                     obtain ⟨t114,A420,H⟩:=H
                     replace H:(if t114 = true then (if 0 ≤ (rd l2 x35_2) then (if (rd l2 x35_2) < (x9_4.length:Int) then (if 0 ≤ (IntKind.u64.wrap (x65_4)) then (q0.l3 k4 a1 (x9_4.set ((rd l2 x35_2):Int).toNat (Go.bits .or .u32 (rd x9_4 (rd l2 x35_2)) (Go.bits .and .u32 a1 (shl .u32 1 (IntKind.u64.wrap (x65_4)))))) (rd l2 x35_2) l2 (l2.length:Int) x35_2 (l0_0.length:Int) (wrap64 (x65_4 + 1)) l0_0 l0_1) else (none)) else (none)) else (none)) else (q0.l3 k4 a1 x9_4 (rd l2 x35_2) l2 (l2.length:Int) x35_2 (l0_0.length:Int) (wrap64 (x65_4 + 1)) l0_0 l0_1)) = some r:=H
                     have A42:=Aside0.mk A420
                     clear A420
                     by_cases c43:t114 = true
                     ·subst c43
                      have H1:(if 0 ≤ (rd l2 x35_2) then (if (rd l2 x35_2) < (x9_4.length:Int) then (if 0 ≤ (IntKind.u64.wrap (x65_4)) then (q0.l3 k4 a1 (x9_4.set ((rd l2 x35_2):Int).toNat (Go.bits .or .u32 (rd x9_4 (rd l2 x35_2)) (Go.bits .and .u32 a1 (shl .u32 1 (IntKind.u64.wrap (x65_4)))))) (rd l2 x35_2) l2 (l2.length:Int) x35_2 (l0_0.length:Int) (wrap64 (x65_4 + 1)) l0_0 l0_1) else (none)) else (none)) else (none)) = some r:=by rw [if_pos rfl] at H;exact H
                      clear H
                      have H:=H1
                      clear H1
                      by_cases c44:0 ≤ (rd l2 x35_2)
                      ·rw [if_pos c44] at H
                       have c44b0:decide (0 ≤ (rd l2 x35_2)) = true:=decide_eq_true c44
                       clear c44
                       by_cases c45:(rd l2 x35_2) < (x9_4.length:Int)
                       ·rw [if_pos c45] at H
                        have c45b0:decide ((rd l2 x35_2) < (x9_4.length:Int)) = true:=decide_eq_true c45
                        have c45b0h:=c45b0
                        (try simp only [hl9_1,hl9_2,hl9_4] at c45b0h)
                        clear c45
                        obtain ⟨ji46,hji46⟩:∃ j_:Int,(IntKind.u64.wrap (x65_4)) = j_:=⟨_,rfl⟩
                        replace H:(if 0 ≤ (ji46) then (q0.l3 k4 a1 (x9_4.set ((rd l2 x35_2):Int).toNat (Go.bits .or .u32 (rd x9_4 (rd l2 x35_2)) (Go.bits .and .u32 a1 (shl .u32 1 (ji46))))) (rd l2 x35_2) l2 (l2.length:Int) x35_2 (l0_0.length:Int) (wrap64 (x65_4 + 1)) l0_0 l0_1) else (none)) = some r:=by first|(rw [hji46] at H;exact H)|(simp only [hji46] at H ⊢;exact H)
                        (try rw [hji46] at A42)
                        by_cases c47:0 ≤ (ji46)
                        ·rw [if_pos c47] at H
                         have c47b0:=eq_true c47
                         have c47b1:decide (0 ≤ (ji46)) = true:=decide_eq_true c47
                         clear c47
                         obtain ⟨ji48,hji48⟩:∃ j_:Int,(shl .u32 1 (ji46)) = j_:=⟨_,rfl⟩
                         replace H:(q0.l3 k4 a1 (x9_4.set ((rd l2 x35_2):Int).toNat (Go.bits .or .u32 (rd x9_4 (rd l2 x35_2)) (Go.bits .and .u32 a1 (ji48)))) (rd l2 x35_2) l2 (l2.length:Int) x35_2 (l0_0.length:Int) (wrap64 (x65_4 + 1)) l0_0 l0_1) = some r:=by first|(rw [hji48] at H;exact H)|(simp only [hji48] at H ⊢;exact H)
                         (try rw [hji48] at A42)
                         have hji48_:(IntKind.u32.wrap (1 * 2 ^ min (ji46).toNat 32)) = ji48:=hji48
                         have hji48z:(ji46) ≤ 32 → (IntKind.u32.wrap (1 * 2 ^ (ji46).toNat)) = ji48:=shl_small hji48
                         have hji48u:(IntKind.u32.wrap (2 ^ min (ji46).toNat 32)) = ji48:=by have h_:=hji48_;rw [Int.one_mul] at h_;exact h_
                         have hji48v:(ji46) ≤ 32 → (IntKind.u32.wrap (2 ^ (ji46).toNat)) = ji48:=fun hle_=>by have h_:=hji48z hle_;rw [Int.one_mul] at h_;exact h_
                         obtain ⟨y116,hy116⟩:∃ y_:List Int,y_ = (x9_4.set ((rd l2 x35_2):Int).toNat (Go.bits .or .u32 (rd x9_4 (rd l2 x35_2)) (Go.bits .and .u32 a1 (ji48)))):=⟨_,rfl⟩
                         replace H:(q0.l3 k4 a1 y116 (rd l2 x35_2) l2 (l2.length:Int) x35_2 (l0_0.length:Int) (wrap64 (x65_4 + 1)) l0_0 l0_1) = some r:=by first|(rw [hy116];with_reducible exact H)|(have H2_:=(Option.bind_some _ _).symm.trans H;rw [hy116];with_reducible exact H2_)|(have H2_:=(Option.bind_some _ _).symm.trans H;with_reducible exact H2_)|with_reducible exact H|(rw [hy116];exact H)|exact H
                         have Ny116:=Aside0.mk hy116
                         clear hy116
                         have H':=Aside0.mk H
                         clear H
                         have hcz50_0:wr.cell? ⟨gb101,0,none⟩ = some (.slice A0_0 l0_0.length c0_0):=(blk_cell BK101.out 0).trans rfl
                         have hcz50_1:wr.cell? ⟨gb101,1,none⟩ = some (.slice A0_1 l0_1.length c0_1):=(blk_cell BK101.out 1).trans rfl
                         have hfz50_0:=blk_frozen BK101.out 0
                         have hfz50_1:=blk_frozen BK101.out 1
                         go_wp2_with (first|(go_at_call 48;(with_reducible refine (q3.calls k4 _ _ l0_0 _ _ l0_1 x65_4 (rd l2 x35_2) true _ ?side1 ?side2 ?side3 ?side4 A42.out).mono ?_);(case side1=>exact cq (Kd.C_below HR0_0.out HB.out));(case side2=>exact HC0_0.out);(case side3=>exact cq (Kd.C_below HR0_1.out HB.out));(case side4=>exact HC0_1.out);rintro e w51 ⟨rfl,hb⟩;have n0_:=zk (Kd.R_below (rq HO_9.out) hb);have n1_:=zk (blk_below (g:=gb101) (o:=.cells #[.slice A0_0 l0_0.length c0_0,.slice A0_1 l0_1.length c0_1] 25 (0,0)) (hq BK101.out) hb);have n2_:=zk (below_step (bg HB.out GE101 GE101) hb);clear HO_9;clear BK101;clear HB;have HO_9:=n0_;have BK101:=n1_;have HB:=n2_;clear n0_ n1_ n2_;(try clear hb);(try clear hb2);(try clear hk);(try clear hi);have p115:0 ≤ ((rd l2 x35_2):Int):=oA;have q115:(rd l2 x35_2) < (x9_4.length:Int):=oA;obtain ⟨ad115,e115,hx115_0⟩:=Kd.at_int (Kd.R_reads' HO_9.out).2.2 (rd l2 x35_2) p115 q115;obtain rfl:(⟨go36,0,none⟩:Addr) = ad115:=(by injection e115);(first|simp only [add_plain] at hx115_0|simp only [add_at] at hx115_0|simp only [Addr.add,Nat.zero_add] at hx115_0|skip);replace p115:=eq_true p115;replace q115:=eq_true q115;have p49:0 ≤ ((rd l2 x35_2):Int):=oA;have q49:((rd l2 x35_2):Int) < ((x9_4.length:Int):Int):=oA;obtain ⟨hx49_0,hf49_0⟩:=Kd.R_celln 0 HO_9.out ((rd l2 x35_2):Int) p49 q49;replace p49:=eq_true p49;replace q49:=eq_true q49;obtain ⟨hy52_,hz52_⟩:=Kd.R_celln 0 HO_9.out ((rd l2 x35_2):Int) oA oA;have HP52:=Kd.R_putg HO_9.out ((rd l2 x35_2):Int) (Go.bits .or .u32 (rd x9_4 (rd l2 x35_2)) (Go.bits .and .u32 a1 (ji48))))|((with_reducible refine gate_store (t:=29) (p:=87) rfl ?_);refine store_event (t:=29) (p:=87) (v:=?vo_w53) (w1:=(w51.setCell ⟨go36,((rd l2 x35_2):Int).toNat,none⟩ (.int .u32 (Go.bits .or .u32 (rd x9_4 (rd l2 x35_2)) (Go.bits .and .u32 a1 (ji48)))))) ?hg ?ho ?hn ?hr ?_;(case ho=>rfl);(case hg=>rfl);(case hn=>rfl);(case hr=>first|(go_simp;done)|(go_simp;rfl));intro w53 hw;have hg:w51.grownBy w53 (some go36):=(by rw [hw];exact HP52.2);have hp_:Kd.R (Kd.int .u32) 29 w53 w.heap.size (fun _=>True) (.slice (some ⟨go36,0,none⟩) x9_4.length co11) y116:=(by rw [hw,Ny116.out];exact HP52.1);clear HP52;have n0_:=zk (hp_);have n1_:=zk (blk_grown (g:=gb101) (o:=.cells #[.slice A0_0 l0_0.length c0_0,.slice A0_1 l0_1.length c0_1] 25 (0,0)) (hq BK101.out) hg (Kd.R_ne HO_9.out BK101.out (by decide)));have n2_:=zk ((by rw [hw];exact below_set (HB.out) GB36.out:Below w.heap.size w w53));clear HO_9;clear BK101;clear HB;have HO_9:=n0_;have BK101:=n1_;have HB:=n2_;clear n0_ n1_ n2_;clear hg hw hp_))
                         (try simp only [← hl9_4])
                         go_roundg k4
                         case measure=>have:=HK1.out;have:=HK2.out;have:=HK3.out;have:=HK4.out;omega
                         case rel=>exact ⟨(y116),(wrap64 (x65_4 + 1)),oE,(by first|exact H'|exact ⟨by simp only [hji46,hji48];exact H'.out⟩),⟨by have:=HK1.out;have:=HK2.out;have:=HK3.out;have:=HK4.out;omega⟩,⟨by (try simp only [hl9_1]);(try simp only [hl9_2]);(try simp only [hl9_4]);(with_reducible repeat (first|apply Kd.R_alloc|apply Kd.R_drewN|apply Kd.R_drew));exact HO_9.out⟩,⟨by (try simp only [hl9_1]);(try simp only [hl9_2]);(try simp only [hl9_4]);(with_reducible repeat (first|refine blk_drewN ?_ _|refine blk_drew ?_|refine blk_alloc ?_ _));exact BK101.out⟩,⟨bg HB.out GE101 GE101⟩⟩
                        ·rw [if_neg c47] at H
                         exact absurd H (by simp)
                       ·rw [if_neg c45] at H
                        exact absurd H (by simp)
                      ·rw [if_neg c44] at H
                       exact absurd H (by simp)
                     ·replace c43:=Bool.eq_false_iff.mpr c43
                      subst c43
                      have H1:(q0.l3 k4 a1 x9_4 (rd l2 x35_2) l2 (l2.length:Int) x35_2 (l0_0.length:Int) (wrap64 (x65_4 + 1)) l0_0 l0_1) = some r:=by rw [if_neg (show ¬ (false = true) by decide)] at H;exact H
                      clear H
                      have H:=H1
                      clear H1
                      have H':=Aside0.mk H
                      clear H
                      have hcz54_0:wr.cell? ⟨gb101,0,none⟩ = some (.slice A0_0 l0_0.length c0_0):=(blk_cell BK101.out 0).trans rfl
                      have hcz54_1:wr.cell? ⟨gb101,1,none⟩ = some (.slice A0_1 l0_1.length c0_1):=(blk_cell BK101.out 1).trans rfl
                      have hfz54_0:=blk_frozen BK101.out 0
                      have hfz54_1:=blk_frozen BK101.out 1
                      go_wp2_with (first|(go_at_call 48;(with_reducible refine (q3.calls k4 _ _ l0_0 _ _ l0_1 x65_4 (rd l2 x35_2) false _ ?side1 ?side2 ?side3 ?side4 A42.out).mono ?_);(case side1=>exact cq (Kd.C_below HR0_0.out HB.out));(case side2=>exact HC0_0.out);(case side3=>exact cq (Kd.C_below HR0_1.out HB.out));(case side4=>exact HC0_1.out);rintro e w55 ⟨rfl,hb⟩;have n0_:=zk (Kd.R_below (rq HO_9.out) hb);have n1_:=zk (blk_below (g:=gb101) (o:=.cells #[.slice A0_0 l0_0.length c0_0,.slice A0_1 l0_1.length c0_1] 25 (0,0)) (hq BK101.out) hb);have n2_:=zk (below_step (bg HB.out GE101 GE101) hb);clear HO_9;clear BK101;clear HB;have HO_9:=n0_;have BK101:=n1_;have HB:=n2_;clear n0_ n1_ n2_;(try clear hb);(try clear hb2);(try clear hk);(try clear hi)))
                      (try simp only [← hl9_4])
                      go_roundg k4
                      case measure=>have:=HK1.out;have:=HK2.out;have:=HK3.out;have:=HK4.out;omega
                      case rel=>exact ⟨(x9_4),(wrap64 (x65_4 + 1)),oE,H',⟨by have:=HK1.out;have:=HK2.out;have:=HK3.out;have:=HK4.out;omega⟩,⟨by (try simp only [hl9_1]);(try simp only [hl9_2]);(try simp only [hl9_4]);(with_reducible repeat (first|apply Kd.R_alloc|apply Kd.R_drewN|apply Kd.R_drew));exact HO_9.out⟩,⟨by (try simp only [hl9_1]);(try simp only [hl9_2]);(try simp only [hl9_4]);(with_reducible repeat (first|refine blk_drewN ?_ _|refine blk_drew ?_|refine blk_alloc ?_ _));exact BK101.out⟩,⟨bg HB.out GE101 GE101⟩⟩
                   ·rw [if_neg c40] at H
                    have c40b0:decide (x65_4 < (l0_0.length:Int)) = false:=decide_eq_false c40
                    have c40b0h:=c40b0
                    (try simp only [hl9_1,hl9_2,hl9_4] at c40b0h)
                    clear c40
                    have H':=Aside0.mk H
                    clear H
                    go_wp2
                    (try simp only [← hl9_2,← hl9_4])
                    go_roundg k4
                    case measure=>have:=HK1.out;have:=HK2.out;have:=HK3.out;have:=HK4.out;omega
                    case rel=>exact ⟨(x9_4),(wrap64 (x35_2 + 1)),oE,H',⟨by have:=HK1.out;have:=HK2.out;have:=HK3.out;have:=HK4.out;omega⟩,⟨by (try simp only [hl9_1]);(try simp only [hl9_2]);(try simp only [hl9_4]);(with_reducible repeat (first|apply Kd.R_alloc|apply Kd.R_drewN|apply Kd.R_drew));exact HO_9.out⟩,⟨by (try simp only [hl9_1]);(try simp only [hl9_2]);(try simp only [hl9_4]);(with_reducible repeat (first|refine blk_drewN ?_ _|refine blk_drew ?_|refine blk_alloc ?_ _));exact BK101.out⟩,⟨bg HB.out GE101 GE101⟩⟩
                ·rw [if_neg c35] at H
                 exact absurd H (by simp)
               ·rw [if_neg c34] at H
                exact absurd H (by simp)
              ·replace c33:=Bool.eq_false_iff.mpr c33
               subst c33
               have H1:(q0.l1 k3 a1 x9_2 l2 (l2.length:Int) (wrap64 (x35_2 + 1)) l0_0 l0_1) = some r:=by rw [if_neg (show ¬ (false = true) by decide)] at H;exact H
               clear H
               have H:=H1
               clear H1
               have H':=Aside0.mk H
               clear H
               go_wp2
               (try simp only [← hl9_2])
               go_roundg k3
               case measure=>have:=HK1.out;have:=HK2.out;have:=HK3.out;omega
               case rel=>exact ⟨(x9_2),(wrap64 (x35_2 + 1)),oE,H',⟨by have:=HK1.out;have:=HK2.out;have:=HK3.out;omega⟩,⟨by (try simp only [hl9_1]);(try simp only [hl9_2]);(with_reducible repeat (first|apply Kd.R_alloc|apply Kd.R_drewN|apply Kd.R_drew));exact HO_9.out⟩,⟨by (try simp only [hl9_1]);(try simp only [hl9_2]);(with_reducible repeat (first|refine blk_drewN ?_ _|refine blk_drew ?_|refine blk_alloc ?_ _));exact BK101.out⟩,⟨bg HB.out GE101 GE101⟩⟩
          ·rw [if_neg c21] at H
           exact absurd H (by simp)
         ·rw [if_neg c20] at H
          exact absurd H (by simp)
        ·rw [if_neg c19] at H
         have c19b0:decide (x35_2 < (l2.length:Int)) = false:=decide_eq_false c19
         have c19b0h:=c19b0
         (try simp only [hl9_1,hl9_2] at c19b0h)
         clear c19
         obtain rfl:=Option.some.inj H
         go_wp2
         go_ret
         exact ⟨_,by first|rfl|(simp [errW_none,errW_some] <;> rfl)|(simp [*,errW_none,errW_some] <;> rfl),rq HO_9.out,bg HB.out GE101 GE101⟩
  ·rw [if_neg c6] at H
   exact absurd H (by simp)
 ·rw [if_neg c5] at H
  exact absurd H (by simp)
end Go.Proofs.Ytnomeokicfpidaa.Q
