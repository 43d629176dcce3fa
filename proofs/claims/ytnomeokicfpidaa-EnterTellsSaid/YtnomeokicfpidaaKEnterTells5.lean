-- merged and slimmed by slim.py (a program of this repo)
import Derived.Test.YtnomeokicfpidaaKEnterTells4
import Derived.Lib.BitFns
namespace Go.Proofs.Ytnomeokicfpidaa.Q
open Go.RowKit Go.Proofs.YtnomeokicfpidaaW.PrintWords Go.Proofs.YtnomeokicfpidaaW.PrintLast Go.Proofs.YtnomeokicfpidaaW.PrintMore
attribute [local go_sem] max2_int min2_int max_two min_two max_three min_three max_four min_four
set_option linter.unusedVariables false
set_option linter.unusedSimpArgs false
mutual
def q26.l0:Nat → Int → List Int → List Int → Int → Int → List Int → List Int → Option (List Int)
 | 0,_,_,_,_,_,_,_=>none
 | k + 1,x1,x9,x21,x22,x23,x102000,x102001=>if x23 < x22 then (if 0 ≤ x23 then (if x23 < (x21.length:Int) then ((q24.f k x102000 x102001 (rd x21 x23)).bind fun t109=>(if t109 = true then (if 0 ≤ (rd x21 x23) then (if (rd x21 x23) < (x9.length:Int) then ((q33.f k x102000 x102001 x1 (rd x21 x23)).bind fun t111=>(q26.l1 k x1 (x9.set ((rd x21 x23):Int).toNat 0) (rd x21 x23) x21 x22 x23 t111 (t111.length:Int) 0 x102000 x102001)) else (none)) else (none)) else (q26.l0 k x1 x9 x21 x22 (wrap64 (x23 + 1)) x102000 x102001))) else (none)) else (none)) else (some x9)
def q26.l1:Nat → Int → List Int → Int → List Int → Int → Int → List Int → Int → Int → List Int → List Int → Option (List Int)
 | 0,_,_,_,_,_,_,_,_,_,_,_=>none
 | k + 1,x1,x9,x11,x21,x22,x23,x37,x38,x39,x102000,x102001=>if x39 < x38 then (if 0 ≤ x39 then (if x39 < (x37.length:Int) then (if 0 ≤ x11 then (if x11 < (x9.length:Int) then (if 0 ≤ (rd x37 x39) then (q26.l1 k x1 (x9.set (x11:Int).toNat (Go.bits .or .u32 (rd x9 x11) (shl .u32 1 (rd x37 x39)))) x11 x21 x22 x23 x37 x38 (wrap64 (x39 + 1)) x102000 x102001) else (none)) else (none)) else (none)) else (none)) else (none)) else (q26.l0 k x1 x9 x21 x22 (wrap64 (x23 + 1)) x102000 x102001)
end
def q26.f (k:Nat) (l0_0:List Int) (l0_1:List Int) (a1:Int) (l2:List Int) (l3:List Int):Option (List Int):=if 0 ≤ (l0_0.length:Int) then (if ((l0_0.length:Int):Int).toNat ≤ 70368744177664 then ((some (List.replicate ((l0_0.length:Int):Int).toNat 0:List Int)).bind fun y102=>(q26.l0 k a1 (l3.take (min l3.length y102.length) ++ y102.drop (min l3.length y102.length)) l2 (l2.length:Int) 0 l0_0 l0_1)) else (none)) else (none)
def q26.T11:Bool × List (List Nat × List Nat):=(true,[([],[]),([],[]),([],[]),([],[]),([2,3],[2,3]),([4],[4]),([],[]),([6],[6]),([5,7],[5,7]),([0,1,0,1,2,3,4,5,6,7,8],[0,1]),([9,8,0,1,2,3,4,5,6,7,8],[8,9])])
def q26.B11:List Nat:=[0,0,0,0,12,28,0,64,252,511,1023]
theorem enter_Remember.tab11:rtab .any (opsOf Try.f24 11) = q26.T11:=by kernel_rfl
theorem enter_Remember.bits11:waitsOk q26.T11.2 q26.B11 = true:=by kernel_rfl
set_option maxHeartbeats 8000000 in
set_option maxRecDepth 100000 in
theorem q26.calls (k:Nat) (A0_0:Option Addr) (c0_0:Nat) (l0_0:List Int) (A0_1:Option Addr) (c0_1:Nat) (l0_1:List Int) (a1:Int) (A2:Option Addr) (c2:Nat) (l2:List Int) (A3:Option Addr) (c3:Nat) (l3:List Int) (r:List Int) (w:World) (hr0_0:Kd.C (Kd.int .i64) w A0_0 l0_0.length l0_0) (hc0_0:l0_0.length ≤ c0_0) (hr0_1:Kd.C (Kd.int .i64) w A0_1 l0_1.length l0_1) (hc0_1:l0_1.length ≤ c0_1) (hr2:Kd.C (Kd.int .i64) w A2 l2.length l2) (hc2:l2.length ≤ c2) (hr3:Kd.C (Kd.int .u32) w A3 l3.length l3) (hc3:l3.length ≤ c3) (h:q26.f k l0_0 l0_1 a1 l2 l3 = some r) :
  Calls Try.prog 24 #[.agg #[.slice A0_0 l0_0.length c0_0,.slice A0_1 l0_1.length c0_1],.int .u32 a1,.slice A2 l2.length c2,.slice A3 l3.length c3] w fun e w'=>∃ v0_:Value,e = .returned (v0_) ∧ Kd.R (Kd.int .u32) 29 w' w.heap.size (fun _=>True) v0_ r ∧ Below w.heap.size w w':=by
 have hu24:=Try.underlying24
 have HR0_0:=Aside0.mk hr0_0
 have HC0_0:=Aside0.mk hc0_0
 clear hr0_0 hc0_0
 have HR0_1:=Aside0.mk hr0_1
 have HC0_1:=Aside0.mk hc0_1
 clear hr0_1 hc0_1
 have HR2:=Aside0.mk hr2
 have HC2:=Aside0.mk hc2
 clear hr2 hc2
 have HR3:=Aside0.mk hr3
 have HC3:=Aside0.mk hc3
 clear hr3 hc3
 have HB:=zk (Below.refl w.heap.size w)
 have H:(if 0 ≤ (l0_0.length:Int) then (if ((l0_0.length:Int):Int).toNat ≤ 70368744177664 then ((some (List.replicate ((l0_0.length:Int):Int).toNat 0:List Int)).bind fun y102=>(q26.l0 k a1 (l3.take (min l3.length y102.length) ++ y102.drop (min l3.length y102.length)) l2 (l2.length:Int) 0 l0_0 l0_1)) else (none)) else (none)) = some r:=h
 clear h
 by_cases c5:0 ≤ (l0_0.length:Int)
 ·rw [if_pos c5] at H
  have c5b0:=eq_true c5
  have c5b1:decide (0 ≤ (l0_0.length:Int)) = true:=decide_eq_true c5
  clear c5
  by_cases c6:((l0_0.length:Int):Int).toNat ≤ 70368744177664
  ·rw [if_pos c6] at H
   have c6b0:=eq_true c6
   have c6b1:decide (((l0_0.length:Int):Int).toNat ≤ 70368744177664) = true:=decide_eq_true c6
   clear c6
   obtain ⟨y102,hy102⟩:∃ y_:List Int,y_ = (List.replicate ((l0_0.length:Int):Int).toNat 0):=⟨_,rfl⟩
   replace H:(q26.l0 k a1 (l3.take (min l3.length y102.length) ++ y102.drop (min l3.length y102.length)) l2 (l2.length:Int) 0 l0_0 l0_1) = some r:=by first|(rw [hy102];with_reducible exact H)|(have H2_:=(Option.bind_some _ _).symm.trans H;rw [hy102];with_reducible exact H2_)|(have H2_:=(Option.bind_some _ _).symm.trans H;with_reducible exact H2_)|with_reducible exact H|(rw [hy102];exact H)|exact H
   have Ny102:=Aside0.mk hy102
   clear hy102
   obtain ⟨y105,hy105⟩:∃ y_:List Int,y_ = (l3.take (min l3.length y102.length) ++ y102.drop (min l3.length y102.length)):=⟨_,rfl⟩
   replace H:(q26.l0 k a1 y105 l2 (l2.length:Int) 0 l0_0 l0_1) = some r:=by first|(rw [hy105];with_reducible exact H)|(have H2_:=(Option.bind_some _ _).symm.trans H;rw [hy105];with_reducible exact H2_)|(have H2_:=(Option.bind_some _ _).symm.trans H;with_reducible exact H2_)|with_reducible exact H|(rw [hy105];exact H)|exact H
   have Ny105:=Aside0.mk hy105
   clear hy105
   have H':=Aside0.mk H
   clear H
   go_enter Try.func24,Try.ntmps24
   go_wp2_with (first|((with_reducible refine gate_dst (N:=4) rfl ?_);refine box_event ?hg (N:=4) ?hd (cs:=#[.slice A0_0 l0_0.length c0_0,.slice A0_1 l0_1.length c0_1]) (t:=24) ?hr ?_;(case hd=>rfl);(case hg=>rfl);(case hr=>first|(go_simp;done)|(go_simp;rfl));intro gb101 hg w7 hbox hb;have n0_:=zk (below_step (bq HB.out) hb);have n1_:=zk (hbox);have n2_:=zk ((by rw [hg];exact (below_size (bq HB.out)):w.heap.size ≤ gb101));have n3_:=zk ((by rw [hg];exact (below_size (bq HB.out)):w.heap.size ≤ gb101));clear HB;have HB:=n0_;have BK101:=n1_;have GW101:=n2_;have GE101:=n3_;clear n0_ n1_ n2_ n3_;clear hb hbox hg;have hcz8_0:w7.cell? ⟨gb101,0,none⟩ = some (.slice A0_0 l0_0.length c0_0):=(blk_cell BK101.out 0).trans rfl;have hcz8_1:w7.cell? ⟨gb101,1,none⟩ = some (.slice A0_1 l0_1.length c0_1):=(blk_cell BK101.out 1).trans rfl;have hfz8_0:=blk_frozen BK101.out 0;have hfz8_1:=blk_frozen BK101.out 1)|((with_reducible refine gate_dst (N:=17) rfl ?_);refine Kd.R_make (Kd.int .u32) _ 29 rfl (N:=17) rfl 42 _ _ rfl (l0_0.length:Int) rfl rfl Try.underlying42 (.int .u32 0) 4 info29 rfl (by decide) (by omega) 0 (ok:=fun _=>True) (okp:=fun _=>True) rfl (fun _ hk=>hk) trivial oA (Nat.le_trans (Nat.mul_le_mul_right _ (oA:(l0_0.length:Int).toNat ≤ 70368744177664)) (by omega)) (Below.refl _ _) (Nat.le_refl _) ?_;intro v103 w9 ho10 hb hg_ hnew_;clear hg_ hnew_;(first|rw [← Ny102.out] at ho10|(simp only [Int.reduceToNat] at ho10;rw [← Ny102.out] at ho10));have n0_:=zk (Kd.R_lower ho10 (below_size (bg HB.out GE101 GE101)));have n1_:=zk (blk_below (g:=gb101) (o:=.cells #[.slice A0_0 l0_0.length c0_0,.slice A0_1 l0_1.length c0_1] 24 (0,0)) (hq BK101.out) hb);have n2_:=zk (below_step (bg HB.out GE101 GE101) hb);clear BK101;clear HB;have HO104:=n0_;have BK101:=n1_;have HB:=n2_;clear n0_ n1_ n2_;clear hb ho10)|((with_reducible refine gate_builtin (b:=.copy) (xs:=#[.tmp 18,.tmp 19]) rfl ?_);refine Kd.R_copy (enc:=(Value.int .u32)) (h1:=fun _=>rfl) 0 (w0:=w) w.heap.size rfl (.tmp 18) (.tmp 19) 42 42 29 rfl Try.underlying42 (by kernel_rfl) v103 y102 l3 _ _ _ (fun _=>True) rfl rfl ?aO ?aR ?aB ?aS ?_;(case aR=>exact cq (Kd.C_below HR3.out HB.out));(case aB=>exact (bg HB.out GE101 GE101));(case aO=>exact (rq HO104.out));(case aS=>exact (below_size (bg HB.out GE101 GE101)));intro w11 ho hb hg;have hat:(v103:Value).ownBlock = (v103:Value).ownBlock ∨ ∃ b,(v103:Value).ownBlock = some b ∧ w9.heap.size ≤ b:=.inl rfl;rw [← Ny105.out] at ho;have n0_:=zk (blk_grown (g:=gb101) (o:=.cells #[.slice A0_0 l0_0.length c0_0,.slice A0_1 l0_1.length c0_1] 24 (0,0)) (hq BK101.out) hg (Kd.R_ne HO104.out BK101.out (by decide)));have n1_:=zk (hb);have n2_:=zk (ho);clear BK101;clear HB;clear HO104;have BK101:=n0_;have HB:=n1_;have HO107:=n2_;clear n0_ n1_ n2_;clear ho hb hg hat))
   go_loopg [23] k (fun kq v23 w'=>∃ (x9_1:List Int) (x23_1:Int),v23 = .int .i64 x23_1 ∧ Aside0 (q26.l0 kq a1 x9_1 l2 (l2.length:Int) x23_1 l0_0 l0_1 = some r) ∧ Aside0 (kq ≤ k) ∧ Aside0 (Kd.R (Kd.int .u32) 29 w' w.heap.size (fun _=>True) v103 x9_1) ∧ Aside0 (w'.heap[gb101]? = some (.cells #[(.slice A0_0 l0_0.length c0_0),(.slice A0_1 l0_1.length c0_1)] 24 (0,0))) ∧ Aside0 (Below w.heap.size w w'))
   case atStart=>exact ⟨(y105),(0),oE,H',⟨Nat.le_refl _⟩,⟨rq HO107.out⟩,⟨hq BK101.out⟩,⟨bg HB.out GE101 GE101⟩⟩
   case round =>
    clear H'
    try clear c2
    try clear p2
    try clear c3
    try clear c5
    try clear c5b0
    try clear c5b1
    try clear c6
    try clear c6b0
    try clear c6b1
    try clear hcz8_0
    try clear hcz8_1
    try clear hfz8_0
    try clear hfz8_1
    obtain ⟨x9_1,x23_1,rfl,HA,HK1,HO_9,BK101,HB⟩:=hrel
    cases gk with
    | zero=>exact absurd HA.out (by simp [q26.l0])
    | succ k1 =>
     have H:=HA.out
     clear HA
     simp only [q26.l0] at H
     by_cases c12:x23_1 < (l2.length:Int)
     ·rw [if_pos c12] at H
      have c12b0:decide (x23_1 < (l2.length:Int)) = true:=decide_eq_true c12
      clear c12
      by_cases c13:0 ≤ x23_1
      ·rw [if_pos c13] at H
       have c13b0:decide (0 ≤ x23_1) = true:=decide_eq_true c13
       clear c13
       by_cases c14:x23_1 < (l2.length:Int)
       ·rw [if_pos c14] at H
        have c14b0:decide (x23_1 < (l2.length:Int)) = true:=decide_eq_true c14
        clear c14
        replace H:=Option.bind_eq_some_iff.mp H
        obtain ⟨t109,A150,H⟩:=H
        replace H:(if t109 = true then (if 0 ≤ (rd l2 x23_1) then (if (rd l2 x23_1) < (x9_1.length:Int) then ((q33.f k1 l0_0 l0_1 a1 (rd l2 x23_1)).bind fun t111=>(q26.l1 k1 a1 (x9_1.set ((rd l2 x23_1):Int).toNat 0) (rd l2 x23_1) l2 (l2.length:Int) x23_1 t111 (t111.length:Int) 0 l0_0 l0_1)) else (none)) else (none)) else (q26.l0 k1 a1 x9_1 l2 (l2.length:Int) (wrap64 (x23_1 + 1)) l0_0 l0_1)) = some r:=H
        have A15:=Aside0.mk A150
        clear A150
        by_cases c16:t109 = true
        ·subst c16
         have H1:(if 0 ≤ (rd l2 x23_1) then (if (rd l2 x23_1) < (x9_1.length:Int) then ((q33.f k1 l0_0 l0_1 a1 (rd l2 x23_1)).bind fun t111=>(q26.l1 k1 a1 (x9_1.set ((rd l2 x23_1):Int).toNat 0) (rd l2 x23_1) l2 (l2.length:Int) x23_1 t111 (t111.length:Int) 0 l0_0 l0_1)) else (none)) else (none)) = some r:=by rw [if_pos rfl] at H;exact H
         clear H
         have H:=H1
         clear H1
         by_cases c17:0 ≤ (rd l2 x23_1)
         ·rw [if_pos c17] at H
          have c17b0:decide (0 ≤ (rd l2 x23_1)) = true:=decide_eq_true c17
          clear c17
          by_cases c18:(rd l2 x23_1) < (x9_1.length:Int)
          ·rw [if_pos c18] at H
           have c18b0:decide ((rd l2 x23_1) < (x9_1.length:Int)) = true:=decide_eq_true c18
           clear c18
           obtain ⟨y110,hy110⟩:∃ y_:List Int,y_ = (x9_1.set ((rd l2 x23_1):Int).toNat 0):=⟨_,rfl⟩
           replace H:((q33.f k1 l0_0 l0_1 a1 (rd l2 x23_1)).bind fun t111=>(q26.l1 k1 a1 y110 (rd l2 x23_1) l2 (l2.length:Int) x23_1 t111 (t111.length:Int) 0 l0_0 l0_1)) = some r:=by first|(rw [hy110];with_reducible exact H)|(have H2_:=(Option.bind_some _ _).symm.trans H;rw [hy110];with_reducible exact H2_)|(have H2_:=(Option.bind_some _ _).symm.trans H;with_reducible exact H2_)|with_reducible exact H|(rw [hy110];exact H)|exact H
           have Ny110:=Aside0.mk hy110
           clear hy110
           replace H:=Option.bind_eq_some_iff.mp H
           obtain ⟨t111,A200,H⟩:=H
           replace H:(q26.l1 k1 a1 y110 (rd l2 x23_1) l2 (l2.length:Int) x23_1 t111 (t111.length:Int) 0 l0_0 l0_1) = some r:=H
           have A20:=Aside0.mk A200
           clear A200
           have H':=Aside0.mk H
           clear H
           have p108:0 ≤ (x23_1:Int):=oA
           have q108:x23_1 < (l2.length:Int):=oA
           obtain ⟨ad108,e108,hx108_0⟩:=Kd.at_int HR2.out x23_1 p108 q108
           cases e108
           replace hx108_0:=(HB.out.cell (World.block_lt_of_cell? w _ hx108_0)).trans hx108_0
           replace p108:=eq_true p108
           replace q108:=eq_true q108
           have hcz21_0:wr.cell? ⟨gb101,0,none⟩ = some (.slice A0_0 l0_0.length c0_0):=(blk_cell BK101.out 0).trans rfl
           have hcz21_1:wr.cell? ⟨gb101,1,none⟩ = some (.slice A0_1 l0_1.length c0_1):=(blk_cell BK101.out 1).trans rfl
           have hfz21_0:=blk_frozen BK101.out 0
           have hfz21_1:=blk_frozen BK101.out 1
           go_wp2_with (first|((with_reducible refine gate_callee (f:=50) rfl ?_);refine goesL_ (some 29) rfl rfl Try.func50 (by kernel_rfl) rfl #[.agg #[.slice A0_0 l0_0.length c0_0,.slice A0_1 l0_1.length c0_1],.int .i64 (rd l2 x23_1)] rfl oF ?_;(with_reducible refine (q24.calls k1 _ _ l0_0 _ _ l0_1 (rd l2 x23_1) true _ ?side1 ?side2 ?side3 ?side4 A15.out).mono ?_);(case side1=>exact cq (Kd.C_below HR0_0.out HB.out));(case side2=>exact HC0_0.out);(case side3=>exact cq (Kd.C_below HR0_1.out HB.out));(case side4=>exact HC0_1.out);rintro e w22 ⟨rfl,hb⟩;refine ⟨_,rfl,?_⟩;have n0_:=zk (Kd.R_below (rq HO_9.out) hb);have n1_:=zk (blk_below (g:=gb101) (o:=.cells #[.slice A0_0 l0_0.length c0_0,.slice A0_1 l0_1.length c0_1] 24 (0,0)) (hq BK101.out) hb);have n2_:=zk (below_step (bg HB.out GE101 GE101) hb);clear HO_9;clear BK101;clear HB;have HO_9:=n0_;have BK101:=n1_;have HB:=n2_;clear n0_ n1_ n2_;(try clear hb);(try clear hb2);(try clear hk);(try clear hi);have p19:0 ≤ ((rd l2 x23_1):Int):=oA;have q19:((rd l2 x23_1):Int) < ((x9_1.length:Int):Int):=oA;obtain ⟨go19,co19,eo19,gb19,gl19,cl19,HG19⟩:=Kd.R_form HO_9.out (by omega);(first|cases eo19|(injection eo19 with ea_ en_ ec_;(first|subst ea_|(injection ea_ with ea_;subst ea_));subst ec_;clear en_));have GB19:=Aside0.mk gb19;have GG19:=Aside0.mk HG19;clear gb19 gl19 HG19;obtain ⟨hx19_0,hf19_0⟩:=Kd.R_celln 0 HO_9.out ((rd l2 x23_1):Int) p19 q19;replace p19:=eq_true p19;replace q19:=eq_true q19;obtain ⟨hy23_,hz23_⟩:=Kd.R_celln 0 HO_9.out ((rd l2 x23_1):Int) oA oA;have HP23:=Kd.R_putg HO_9.out ((rd l2 x23_1):Int) 0)|((with_reducible refine gate_store (t:=29) (p:=33) rfl ?_);refine store_event (t:=29) (p:=33) (v:=?vo_w24) (w1:=(w22.setCell ⟨go19,((rd l2 x23_1):Int).toNat,none⟩ (.int .u32 0))) ?hg ?ho ?hn ?hr ?_;(case ho=>rfl);(case hg=>rfl);(case hn=>rfl);(case hr=>first|(go_simp;done)|(go_simp;rfl));intro w24 hw;have hg:w22.grownBy w24 (some go19):=(by rw [hw];exact HP23.2);have hp_:Kd.R (Kd.int .u32) 29 w24 w.heap.size (fun _=>True) (.slice (some ⟨go19,0,none⟩) x9_1.length co19) y110:=(by rw [hw,Ny110.out];exact HP23.1);clear HP23;have n0_:=zk (hp_);have n1_:=zk (blk_grown (g:=gb101) (o:=.cells #[.slice A0_0 l0_0.length c0_0,.slice A0_1 l0_1.length c0_1] 24 (0,0)) (hq BK101.out) hg (Kd.R_ne HO_9.out BK101.out (by decide)));have n2_:=zk ((by rw [hw];exact below_set (HB.out) GB19.out:Below w.heap.size w w24));clear HO_9;clear BK101;clear HB;have HO_9:=n0_;have BK101:=n1_;have HB:=n2_;clear n0_ n1_ n2_;clear hg hw hp_;have hcz25_0:w24.cell? ⟨gb101,0,none⟩ = some (.slice A0_0 l0_0.length c0_0):=(blk_cell BK101.out 0).trans rfl;have hcz25_1:w24.cell? ⟨gb101,1,none⟩ = some (.slice A0_1 l0_1.length c0_1):=(blk_cell BK101.out 1).trans rfl;have hfz25_0:=blk_frozen BK101.out 0;have hfz25_1:=blk_frozen BK101.out 1)|((with_reducible refine gate_callee (f:=49) rfl ?_);refine goesL_ (some 37) rfl rfl Try.func49 (by kernel_rfl) rfl #[.agg #[.slice A0_0 l0_0.length c0_0,.slice A0_1 l0_1.length c0_1],.int .u32 a1,.int .i64 (rd l2 x23_1)] rfl oF ?_;(with_reducible refine (q33.calls k1 _ _ l0_0 _ _ l0_1 a1 (rd l2 x23_1) t111 _ ?side1 ?side2 ?side3 ?side4 A20.out).mono ?_);(case side1=>exact cq (Kd.C_below HR0_0.out HB.out));(case side2=>exact HC0_0.out);(case side3=>exact cq (Kd.C_below HR0_1.out HB.out));(case side4=>exact HC0_1.out);rintro e w26 ⟨v112,rfl,ho0,hb⟩;refine ⟨_,rfl,?_⟩;have n0_:=zk (Kd.R_below (rq HO_9.out) hb);have n1_:=zk (Kd.R_lower ho0 (below_size (bg HB.out GE101 GE101)));have n2_:=zk (blk_below (g:=gb101) (o:=.cells #[.slice A0_0 l0_0.length c0_0,.slice A0_1 l0_1.length c0_1] 24 (0,0)) (hq BK101.out) hb);have n3_:=zk (below_step (bg HB.out GE101 GE101) hb);clear HO_9;clear BK101;clear HB;have HO_9:=n0_;have HO113:=n1_;have BK101:=n2_;have HB:=n3_;clear n0_ n1_ n2_ n3_;(try clear hb);(try clear hb2);(try clear hk);(try clear hi);(try clear ho0);obtain ⟨Ao27,co27,eo27⟩:=Kd.R_slice HO113.out;subst eo27))
           go_loopg [39] k1 (fun kq v39 w'=>∃ (x9_2:List Int) (x39_2:Int),v39 = .int .i64 x39_2 ∧ Aside0 (q26.l1 kq a1 x9_2 (rd l2 x23_1) l2 (l2.length:Int) x23_1 t111 (t111.length:Int) x39_2 l0_0 l0_1 = some r) ∧ Aside0 (kq ≤ k1) ∧ Aside0 (Kd.R (Kd.int .u32) 29 w' w.heap.size (fun _=>True) (.slice (some ⟨go19,0,none⟩) x9_1.length co19) x9_2) ∧ Aside0 (Kd.R (Kd.int .i64) 3 w' w.heap.size (fun _=>True) (.slice Ao27 t111.length co27) t111) ∧ Aside0 (w'.heap[gb101]? = some (.cells #[(.slice A0_0 l0_0.length c0_0),(.slice A0_1 l0_1.length c0_1)] 24 (0,0))) ∧ Aside0 (Below w.heap.size w w'))
           case atStart=>exact ⟨(y110),(0),oE,H',⟨Nat.le_refl _⟩,⟨rq HO_9.out⟩,⟨rq HO113.out⟩,⟨hq BK101.out⟩,⟨bg HB.out GE101 GE101⟩⟩
           case round =>
            clear H'
            try clear c1
            try clear p1
            try clear q1
            try clear hx1
            try clear c2
            try clear p2
            try clear c3
            try clear c4
            try clear c5
            try clear c5b0
            try clear c5b1
            try clear c6
            try clear c6b0
            try clear c6b1
            try clear p6
            try clear p10
            try clear q10
            try clear hx10
            try clear c12
            try clear c12b0
            try clear c13
            try clear c13b0
            try clear c14
            try clear c14b0
            try clear c16
            try clear c17
            try clear c17b0
            try clear c18
            try clear c18b0
            try clear p19
            try clear q19
            try clear hx19
            try clear hf19
            try clear c24
            try clear hcz21_0
            try clear hcz21_1
            try clear hcz25_0
            try clear hcz25_1
            try clear hcz8_0
            try clear hcz8_1
            try clear hfz21_0
            try clear hfz21_1
            try clear hfz25_0
            try clear hfz25_1
            try clear hfz8_0
            try clear hfz8_1
            try clear hx108_0
            try clear hx19_0
            try clear p108
            try clear p19
            try clear p2
            try clear q108
            try clear q19
            obtain ⟨x9_2,x39_2,rfl,HA,HK2,HO_9,HO_37,BK101,HB⟩:=hrel
            have hl9_2:=(Kd.R_reads' HO_9.out).1
            rw [hl9_2] at HO_9
            (try simp only [hl9_2])
            (try simp only [hl9_2] at BK101)
            (try simp only [hl9_2] at HO_37)
            cases gk with
            | zero=>exact absurd HA.out (by simp [q26.l1])
            | succ k2 =>
             have H:=HA.out
             clear HA
             simp only [q26.l1] at H
             by_cases c28:x39_2 < (t111.length:Int)
             ·rw [if_pos c28] at H
              have c28b0:decide (x39_2 < (t111.length:Int)) = true:=decide_eq_true c28
              have c28b0h:=c28b0
              (try simp only [hl9_2] at c28b0h)
              clear c28
              by_cases c29:0 ≤ x39_2
              ·rw [if_pos c29] at H
               have c29b0:decide (0 ≤ x39_2) = true:=decide_eq_true c29
               clear c29
               by_cases c30:x39_2 < (t111.length:Int)
               ·rw [if_pos c30] at H
                have c30b0:decide (x39_2 < (t111.length:Int)) = true:=decide_eq_true c30
                have c30b0h:=c30b0
                (try simp only [hl9_2] at c30b0h)
                clear c30
                by_cases c31:0 ≤ (rd l2 x23_1)
                ·rw [if_pos c31] at H
                 have c31b0:decide (0 ≤ (rd l2 x23_1)) = true:=decide_eq_true c31
                 clear c31
                 by_cases c32:(rd l2 x23_1) < (x9_2.length:Int)
                 ·rw [if_pos c32] at H
                  have c32b0:decide ((rd l2 x23_1) < (x9_2.length:Int)) = true:=decide_eq_true c32
                  have c32b0h:=c32b0
                  (try simp only [hl9_2] at c32b0h)
                  clear c32
                  by_cases c33:0 ≤ (rd t111 x39_2)
                  ·rw [if_pos c33] at H
                   have c33b0:=eq_true c33
                   have c33b1:decide (0 ≤ (rd t111 x39_2)) = true:=decide_eq_true c33
                   clear c33
                   obtain ⟨ji34,hji34⟩:∃ j_:Int,(shl .u32 1 (rd t111 x39_2)) = j_:=⟨_,rfl⟩
                   replace H:(q26.l1 k2 a1 (x9_2.set ((rd l2 x23_1):Int).toNat (Go.bits .or .u32 (rd x9_2 (rd l2 x23_1)) (ji34))) (rd l2 x23_1) l2 (l2.length:Int) x23_1 t111 (t111.length:Int) (wrap64 (x39_2 + 1)) l0_0 l0_1) = some r:=by first|(rw [hji34] at H;exact H)|(simp only [hji34] at H ⊢;exact H)
                   have hji34_:(IntKind.u32.wrap (1 * 2 ^ min (rd t111 x39_2).toNat 32)) = ji34:=hji34
                   have hji34z:(rd t111 x39_2) ≤ 32 → (IntKind.u32.wrap (1 * 2 ^ (rd t111 x39_2).toNat)) = ji34:=shl_small hji34
                   have hji34u:(IntKind.u32.wrap (2 ^ min (rd t111 x39_2).toNat 32)) = ji34:=by have h_:=hji34_;rw [Int.one_mul] at h_;exact h_
                   have hji34v:(rd t111 x39_2) ≤ 32 → (IntKind.u32.wrap (2 ^ (rd t111 x39_2).toNat)) = ji34:=fun hle_=>by have h_:=hji34z hle_;rw [Int.one_mul] at h_;exact h_
                   obtain ⟨y116,hy116⟩:∃ y_:List Int,y_ = (x9_2.set ((rd l2 x23_1):Int).toNat (Go.bits .or .u32 (rd x9_2 (rd l2 x23_1)) (ji34))):=⟨_,rfl⟩
                   replace H:(q26.l1 k2 a1 y116 (rd l2 x23_1) l2 (l2.length:Int) x23_1 t111 (t111.length:Int) (wrap64 (x39_2 + 1)) l0_0 l0_1) = some r:=by first|(rw [hy116];with_reducible exact H)|(have H2_:=(Option.bind_some _ _).symm.trans H;rw [hy116];with_reducible exact H2_)|(have H2_:=(Option.bind_some _ _).symm.trans H;with_reducible exact H2_)|with_reducible exact H|(rw [hy116];exact H)|exact H
                   have Ny116:=Aside0.mk hy116
                   clear hy116
                   have H':=Aside0.mk H
                   clear H
                   have p114:0 ≤ (x39_2:Int):=oA
                   have q114:x39_2 < (t111.length:Int):=oA
                   obtain ⟨ad114,e114,hx114_0⟩:=Kd.at_int (Kd.R_reads' HO_37.out).2.2 x39_2 p114 q114
                   cases e114
                   replace p114:=eq_true p114
                   replace q114:=eq_true q114
                   try go_wp2
                   have n0_:=zk (Kd.R_drew HO_9.out)
                   have n1_:=zk (Kd.R_drew HO_37.out)
                   have n2_:=zk (blk_drew BK101.out)
                   have n3_:=zk (below_drew1 HB.out)
                   clear HO_9
                   clear HO_37
                   clear BK101
                   clear HB
                   have HO_9:=n0_
                   have HO_37:=n1_
                   have BK101:=n2_
                   have HB:=n3_
                   clear n0_ n1_ n2_ n3_
                   have p115:0 ≤ ((rd l2 x23_1):Int):=oA
                   have q115:(rd l2 x23_1) < (x9_2.length:Int):=oA
                   obtain ⟨ad115,e115,hx115_0⟩:=Kd.at_int (Kd.R_reads' HO_9.out).2.2 (rd l2 x23_1) p115 q115
                   obtain rfl:(⟨go19,0,none⟩:Addr) = ad115:=(by injection e115)
                   (first|simp only [add_plain] at hx115_0|simp only [add_at] at hx115_0|simp only [Addr.add,Nat.zero_add] at hx115_0|skip)
                   replace p115:=eq_true p115
                   replace q115:=eq_true q115
                   have p35:0 ≤ ((rd l2 x23_1):Int):=oA
                   have q35:((rd l2 x23_1):Int) < ((x9_2.length:Int):Int):=oA
                   obtain ⟨hx35_0,hf35_0⟩:=Kd.R_celln 0 HO_9.out ((rd l2 x23_1):Int) p35 q35
                   replace p35:=eq_true p35
                   replace q35:=eq_true q35
                   have HP37:=Kd.R_putn HO_9.out ((rd l2 x23_1):Int) (Go.bits .or .u32 (rd x9_2 (rd l2 x23_1)) (ji34))
                   rw [← Ny116.out] at HP37
                   have HQ37:=Aside0.mk HP37
                   clear HP37
                   obtain ⟨_,hgg37⟩:=Kd.R_typed HO_9.out go19 rfl
                   have GG37_:=Aside0.mk hgg37
                   clear hgg37
                   refine start_ (n:=11) (S:=fun w'=>w'.cell? ⟨go19,((rd l2 x23_1)).toNat,none⟩ = some (.int .u32 (rd x9_2 (rd l2 x23_1)))) (ds:=[10]) #[false,false,false,false,false,false,false,false,false,false,false] (by kernel_rfl) rfl rfl (hx115_0) (fun hHeld=>?_);refine with_tabW enter_Remember.tab11 enter_Remember.bits11 (fun HT_ HW_=>?_)
                   generalize wr.drew = w36 at HO_9 HO_37 BK101 HB GG37_ HQ37 hf35_0 hx115_0 hx35_0 hHeld ⊢
                   refine pure_ (i:=0) (N:=some 43) (v:=?_) (a':=?_) #[true,false,false,false,false,false,false,false,false,false,false] rfl rfl (any_of HT_.out (by kernel_rfl)) (fun _ _ _ h=>h) (Or.inl ⟨by rfl,?_⟩) ?_ ?_
                   rotate_left
                   ·intro w'
                    go_simp
                    with_reducible rfl
                   rotate_left
                   ·simp only [Act.put,List.setIfInBounds_toArray,List.set_cons_zero,List.set_cons_succ,i64_w,i32_w]
                    rfl
                   refine pure_ (i:=1) (N:=some 44) (v:=?_) (a':=?_) #[true,true,false,false,false,false,false,false,false,false,false] rfl rfl (any_of HT_.out (by kernel_rfl)) (fun _ _ _ h=>h) (Or.inl ⟨by rfl,?_⟩) ?_ ?_
                   rotate_left
                   ·intro w'
                    go_simp
                    with_reducible rfl
                   rotate_left
                   ·simp only [Act.put,List.setIfInBounds_toArray,List.set_cons_zero,List.set_cons_succ,i64_w,i32_w]
                    rfl
                   refine pure_ (i:=2) (N:=some 45) (v:=?_) (a':=?_) #[true,true,true,false,false,false,false,false,false,false,false] rfl rfl (any_of HT_.out (by kernel_rfl)) (fun _ _ _ h=>h) (Or.inl ⟨by rfl,?_⟩) ?_ ?_
                   rotate_left
                   ·intro w'
                    go_simp
                    with_reducible rfl
                   rotate_left
                   ·simp only [Act.put,List.setIfInBounds_toArray,List.set_cons_zero,List.set_cons_succ,i64_w,i32_w]
                    rfl
                   refine pure_ (i:=3) (N:=some 46) (v:=?_) (a':=?_) #[true,true,true,true,false,false,false,false,false,false,false] rfl rfl (any_of HT_.out (by kernel_rfl)) (fun _ _ _ h=>h) (Or.inl ⟨by rfl,?_⟩) ?_ ?_
                   rotate_left
                   ·intro w'
                    go_simp
                    with_reducible rfl
                   rotate_left
                   ·simp only [Act.put,List.setIfInBounds_toArray,List.set_cons_zero,List.set_cons_succ,i64_w,i32_w]
                    rfl
                   refine pure_ (i:=4) (N:=some 47) (v:=?_) (a':=?_) #[true,true,true,true,true,false,false,false,false,false,false] rfl rfl (any_of HT_.out (by kernel_rfl)) (fun _ _ _ h=>h) (Or.inl ⟨by rfl,?_⟩) ?_ ?_
                   rotate_left
                   ·intro w'
                    go_simp
                    with_reducible rfl
                   rotate_left
                   ·simp only [Act.put,List.setIfInBounds_toArray,List.set_cons_zero,List.set_cons_succ,i64_w,i32_w]
                    rfl
                   refine pure_ (i:=6) (N:=some 49) (v:=?_) (a':=?_) #[true,true,true,true,true,false,true,false,false,false,false] rfl rfl (any_of HT_.out (by kernel_rfl)) (fun _ _ _ h=>h) (Or.inl ⟨by rfl,?_⟩) ?_ ?_
                   rotate_left
                   ·intro w'
                    go_simp
                    with_reducible rfl
                   rotate_left
                   ·simp only [Act.put,List.setIfInBounds_toArray,List.set_cons_zero,List.set_cons_succ,i64_w,i32_w]
                    rfl
                   refine pure_ (i:=7) (N:=some 50) (v:=?_) (a':=?_) #[true,true,true,true,true,false,true,true,false,false,false] rfl rfl (any_of HT_.out (by kernel_rfl)) (fun _ _ _ h=>h) (Or.inl ⟨by rfl,?_⟩) ?_ ?_
                   rotate_left
                   ·intro w'
                    go_simp
                    with_reducible rfl
                   rotate_left
                   ·simp only [Act.put,List.setIfInBounds_toArray,List.set_cons_zero,List.set_cons_succ,i64_w,i32_w]
                    rfl
                   refine take_ (i:=5) (N:=some 48) (v:=?_) (a':=?_) #[true,true,true,true,true,true,true,true,false,false,false] rfl rfl (take_ofW HT_.out HW_.out (by kernel_rfl)) (fun _ _ _ h=>h) (Or.inl ⟨by rfl,?_⟩) hHeld ?_ ?_
                   rotate_left
                   ·intro w' s0
                    go_simp
                    with_reducible rfl
                   rotate_left
                   ·simp only [Act.put,List.setIfInBounds_toArray,List.set_cons_zero,List.set_cons_succ,i64_w,i32_w]
                    rfl
                   refine pure_ (i:=8) (N:=some 51) (v:=?_) (a':=?_) #[true,true,true,true,true,true,true,true,true,false,false] rfl rfl (any_of HT_.out (by kernel_rfl)) (fun _ _ _ h=>h) (Or.inl ⟨by rfl,?_⟩) ?_ ?_
                   rotate_left
                   ·intro w'
                    go_simp
                    with_reducible rfl
                   rotate_left
                   ·simp only [Act.put,List.setIfInBounds_toArray,List.set_cons_zero,List.set_cons_succ,i64_w,i32_w]
                    rfl
                   refine pure_ (i:=9) (N:=some 52) (v:=?_) (a':=?_) #[true,true,true,true,true,true,true,true,true,true,false] rfl rfl (any_of HT_.out (by kernel_rfl)) (fun _ _ _ h=>h) (Or.inl ⟨by rfl,?_⟩) ?_ ?_
                   rotate_left
                   ·intro w'
                    go_simp
                    with_reducible rfl
                   rotate_left
                   ·simp only [Act.put,List.setIfInBounds_toArray,List.set_cons_zero,List.set_cons_succ,i64_w,i32_w]
                    rfl
                   refine last_ (i:=10) (N:=none) #[true,true,true,true,true,true,true,true,true,true,true] rfl rfl (one_of HT_.out (by kernel_rfl)) (by decide) (fun K hK=>?_)
                   refine skip_ (w1:=?_) (by rfl) rfl ?_ ?_
                   rotate_left
                   ·go_simp
                    rfl
                   refine hK.out _ _ ?_
                   clear hK K
                   refine done_ (done_of HT_.out (by kernel_rfl)) ?_
                   try go_wp2
                   (try simp only [← hl9_2])
                   go_roundg k2
                   case measure=>have:=HK1.out;have:=HK2.out;omega
                   case rel=>exact ⟨(y116),(wrap64 (x39_2 + 1)),oE,(by first|exact H'|exact ⟨by simp only [hji34];exact H'.out⟩),⟨by have:=HK1.out;have:=HK2.out;omega⟩,⟨by (try simp only [hl9_2]);(with_reducible repeat (first|apply Kd.R_alloc|apply Kd.R_drewN|apply Kd.R_drew));exact HQ37.out⟩,⟨by (try simp only [hl9_2]);(with_reducible repeat (first|apply Kd.R_alloc|apply Kd.R_drewN|apply Kd.R_drew));exact Kd.R_mono (Kd.R_far (p:=⟨go19,((rd l2 x23_1):Int).toNat,none⟩) (Kd.R_types HO_37.out GG37_.out (by decide)) (fun _ hk=>hk.2) (.int .u32 (Go.bits .or .u32 (rd x9_2 (rd l2 x23_1)) (ji34)))) (fun _ hk=>trivial)⟩,⟨by (try simp only [hl9_2]);(with_reducible repeat (first|refine blk_drewN ?_ _|refine blk_drew ?_|refine blk_alloc ?_ _));refine blk_far ?_ (by have h_:=Kd.R_ne HO_9.out BK101.out (by decide);intro e_;exact h_ (by rw [e_];rfl)) _;(with_reducible repeat (first|refine blk_drewN ?_ _|refine blk_drew ?_|refine blk_alloc ?_ _));exact BK101.out⟩,⟨bg HB.out GB19 GE101⟩⟩
                  ·rw [if_neg c33] at H
                   exact absurd H (by simp)
                 ·rw [if_neg c32] at H
                  exact absurd H (by simp)
                ·rw [if_neg c31] at H
                 exact absurd H (by simp)
               ·rw [if_neg c30] at H
                exact absurd H (by simp)
              ·rw [if_neg c29] at H
               exact absurd H (by simp)
             ·rw [if_neg c28] at H
              have c28b0:decide (x39_2 < (t111.length:Int)) = false:=decide_eq_false c28
              have c28b0h:=c28b0
              (try simp only [hl9_2] at c28b0h)
              clear c28
              have H':=Aside0.mk H
              clear H
              go_wp2
              (try simp only [← hl9_2])
              go_roundg k2
              case measure=>have:=HK1.out;have:=HK2.out;omega
              case rel=>exact ⟨(x9_2),(wrap64 (x23_1 + 1)),oE,H',⟨by have:=HK1.out;have:=HK2.out;omega⟩,⟨by (try simp only [hl9_2]);(with_reducible repeat (first|apply Kd.R_alloc|apply Kd.R_drewN|apply Kd.R_drew));exact HO_9.out⟩,⟨by (try simp only [hl9_2]);(with_reducible repeat (first|refine blk_drewN ?_ _|refine blk_drew ?_|refine blk_alloc ?_ _));exact BK101.out⟩,⟨bg HB.out GE101 GE101⟩⟩
          ·rw [if_neg c18] at H
           exact absurd H (by simp)
         ·rw [if_neg c17] at H
          exact absurd H (by simp)
        ·replace c16:=Bool.eq_false_iff.mpr c16
         subst c16
         have H1:(q26.l0 k1 a1 x9_1 l2 (l2.length:Int) (wrap64 (x23_1 + 1)) l0_0 l0_1) = some r:=by rw [if_neg (show ¬ (false = true) by decide)] at H;exact H
         clear H
         have H:=H1
         clear H1
         have H':=Aside0.mk H
         clear H
         have p108:0 ≤ (x23_1:Int):=oA
         have q108:x23_1 < (l2.length:Int):=oA
         obtain ⟨ad108,e108,hx108_0⟩:=Kd.at_int HR2.out x23_1 p108 q108
         cases e108
         replace hx108_0:=(HB.out.cell (World.block_lt_of_cell? w _ hx108_0)).trans hx108_0
         replace p108:=eq_true p108
         replace q108:=eq_true q108
         have hcz38_0:wr.cell? ⟨gb101,0,none⟩ = some (.slice A0_0 l0_0.length c0_0):=(blk_cell BK101.out 0).trans rfl
         have hcz38_1:wr.cell? ⟨gb101,1,none⟩ = some (.slice A0_1 l0_1.length c0_1):=(blk_cell BK101.out 1).trans rfl
         have hfz38_0:=blk_frozen BK101.out 0
         have hfz38_1:=blk_frozen BK101.out 1
         go_wp2_with (first|((with_reducible refine gate_callee (f:=50) rfl ?_);refine goesL_ (some 29) rfl rfl Try.func50 (by kernel_rfl) rfl #[.agg #[.slice A0_0 l0_0.length c0_0,.slice A0_1 l0_1.length c0_1],.int .i64 (rd l2 x23_1)] rfl oF ?_;(with_reducible refine (q24.calls k1 _ _ l0_0 _ _ l0_1 (rd l2 x23_1) false _ ?side1 ?side2 ?side3 ?side4 A15.out).mono ?_);(case side1=>exact cq (Kd.C_below HR0_0.out HB.out));(case side2=>exact HC0_0.out);(case side3=>exact cq (Kd.C_below HR0_1.out HB.out));(case side4=>exact HC0_1.out);rintro e w39 ⟨rfl,hb⟩;refine ⟨_,rfl,?_⟩;have n0_:=zk (Kd.R_below (rq HO_9.out) hb);have n1_:=zk (blk_below (g:=gb101) (o:=.cells #[.slice A0_0 l0_0.length c0_0,.slice A0_1 l0_1.length c0_1] 24 (0,0)) (hq BK101.out) hb);have n2_:=zk (below_step (bg HB.out GE101 GE101) hb);clear HO_9;clear BK101;clear HB;have HO_9:=n0_;have BK101:=n1_;have HB:=n2_;clear n0_ n1_ n2_;(try clear hb);(try clear hb2);(try clear hk);(try clear hi)))
         go_roundg k1
         case measure=>have:=HK1.out;omega
         case rel=>exact ⟨(x9_1),(wrap64 (x23_1 + 1)),oE,H',⟨by have:=HK1.out;omega⟩,⟨rq HO_9.out⟩,⟨hq BK101.out⟩,⟨bg HB.out GE101 GE101⟩⟩
       ·rw [if_neg c14] at H
        exact absurd H (by simp)
      ·rw [if_neg c13] at H
       exact absurd H (by simp)
     ·rw [if_neg c12] at H
      have c12b0:decide (x23_1 < (l2.length:Int)) = false:=decide_eq_false c12
      clear c12
      obtain rfl:=Option.some.inj H
      go_wp2
      go_ret
      exact ⟨_,by first|rfl|(simp [errW_none,errW_some] <;> rfl)|(simp [*,errW_none,errW_some] <;> rfl),rq HO_9.out,bg HB.out GE101 GE101⟩
  ·rw [if_neg c6] at H
   exact absurd H (by simp)
 ·rw [if_neg c5] at H
  exact absurd H (by simp)
end Go.Proofs.Ytnomeokicfpidaa.Q
namespace Go.Proofs.Ytnomeokicfpidaa.M
open Go.RowKit Go.Proofs.YtnomeokicfpidaaW.PrintWords Go.Proofs.YtnomeokicfpidaaW.PrintLast Go.Proofs.YtnomeokicfpidaaW.PrintMore
set_option linter.unusedVariables false
theorem w64 {x:Int} (h0:-9223372036854775808 ≤ x) (h1:x ≤ 9223372036854775807):wrap64 x = x:=by unfold wrap64;omega
theorem w1 (i:Nat) (h:i < 4611686018427387904):wrap64 ((i:Int) + 1) = ((i + 1:Nat):Int):=by rw [w64 (by omega) (by omega)];omega
theorem rd_nat (xs:List Int) (i:Nat):rd xs (i:Int) = xs.getD i 0:=by simp [rd]
theorem Ev.st {α:Type} {g f:Nat → Option α} {r:α} (k:Ev f r) (h:∀ k,g (k + 1) = f k):Ev g r:=Ev.step h k
theorem Ev.ret {α:Type} {g:Nat → Option α} {r:α} (h:∀ k,g (k + 1) = some r):Ev g r:=Ev.step (f:=fun _=>some r) h (Ev.now r)
theorem Ev.cg {α:Type} {g f:Nat → Option α} {r:α} (k:Ev f r) (h:∀ k,g k = f k):Ev g r:=Ev.congr h k
theorem Ev.bd {α β:Type} {g:Nat → Option α} {f:Nat → α → Option β} {a:α} {r:β} (h:Ev g a) (k:Ev (fun n=>f n a) r):Ev (fun n=>(g n).bind (fun x=>f n x)) r:=Ev.bind h k
theorem Ev.som {α β:Type} {f:Nat → α → Option β} {a:α} {r:β} (k:Ev (fun n=>f n a) r):Ev (fun n=>(some a).bind (fun x=>f n x)) r:=k
theorem Ev.pos {α:Type} {c:Prop} [Decidable c] {f g:Nat → Option α} {r:α} (h:c) (k:Ev f r):Ev (fun n=>if c then f n else g n) r:=by simpa [h] using k
theorem Ev.neg {α:Type} {c:Prop} [Decidable c] {f g:Nat → Option α} {r:α} (h:¬ c) (k:Ev g r):Ev (fun n=>if c then f n else g n) r:=by simpa [h] using k
theorem Ev.ite {α:Type} {c:Prop} [Decidable c] {f g:Nat → Option α} {r s:α} (k:c → Ev f r) (l:¬ c → Ev g s):Ev (fun n=>if c then f n else g n) (if c then r else s):=by
 by_cases h:c
 ·simpa [h] using k h
 ·simpa [h] using l h
theorem Ev.val {α:Type} {g:Nat → Option α} {r s:α} (h:Ev g r) (e:r = s):Ev g s:=e ▸ h
end Go.Proofs.Ytnomeokicfpidaa.M
namespace Go.Proofs.Ytnomeokicfpidaa.Q
open Go.RowKit Go.Proofs.YtnomeokicfpidaaW.PrintWords Go.Proofs.YtnomeokicfpidaaW.PrintLast Go.Proofs.YtnomeokicfpidaaW.PrintMore
attribute [local go_sem] max2_int min2_int max_two min_two max_three min_three max_four min_four
set_option linter.unusedVariables false
set_option linter.unusedSimpArgs false
def q36.f (a0:Int):Option (Bool):=if a0 = 1 then (some true) else (some (a0 == 2))
set_option maxHeartbeats 8000000 in
set_option maxRecDepth 100000 in
theorem q36.calls (a0:Int) (r:Bool) (w:World) (h:q36.f a0 = some r) :
  Calls Try.prog 45 #[.int .i64 a0] w fun e w'=>e = .returned (.bool r) ∧ Drawn0 w w':=by
 have H:(if a0 = 1 then (some true) else (some (a0 == 2))) = some r:=h
 clear h
 by_cases c2:a0 = 1
 ·rw [if_pos c2] at H
  have c2b0:(a0 == 1) = true:=beq_iff_eq.mpr c2
  have c2b1:(a0 != 1) = false:=bne_eq_false_iff_eq.mpr c2
  clear c2
  obtain rfl:=Option.some.inj H
  go_enter Try.func45,Try.ntmps45
  go_wp2
  go_ret
  exact ⟨by first|rfl|(simp;done)|(simp [*];done),by repeat (first|exact Drawn0.refl _|apply Drawn0.step)⟩
 ·rw [if_neg c2] at H
  have c2b0:(a0 == 1) = false:=beq_eq_false_iff_ne.mpr c2
  have c2b1:(a0 != 1) = true:=bne_iff_ne.mpr c2
  obtain rfl:=Option.some.inj H
  go_enter Try.func45,Try.ntmps45
  go_wp2
  go_ret
  exact ⟨by first|rfl|(simp;done)|(simp [*];done),by repeat (first|exact Drawn0.refl _|apply Drawn0.step)⟩
def q27.l0:Nat → List Int → Int → Int → List Int → List Int → Option (Int)
 | 0,_,_,_,_,_=>none
 | k + 1,x9,x10,x11,x102000,x102001=>if x11 < x10 then (if 0 ≤ x11 then (if x11 < (x9.length:Int) then (if 0 ≤ (rd x9 x11) then (if (rd x9 x11) < (x102000.length:Int) then ((q36.f (rd x102000 (rd x9 x11))).bind fun t107=>(if t107 = true then (some (rd x9 x11)) else (q27.l0 k x9 x10 (wrap64 (x11 + 1)) x102000 x102001))) else (none)) else (none)) else (none)) else (none)) else (some (-1))
def q27.f (k:Nat) (l0_0:List Int) (l0_1:List Int) (a1:Int):Option (Int):=(q38.f k l0_0 l0_1 a1).bind fun t102=>(q27.l0 k t102 (t102.length:Int) 0 l0_0 l0_1)
set_option maxHeartbeats 8000000 in
set_option maxRecDepth 100000 in
theorem q27.calls (k:Nat) (A0_0:Option Addr) (c0_0:Nat) (l0_0:List Int) (A0_1:Option Addr) (c0_1:Nat) (l0_1:List Int) (a1:Int) (r:Int) (w:World) (hr0_0:Kd.C (Kd.int .i64) w A0_0 l0_0.length l0_0) (hc0_0:l0_0.length ≤ c0_0) (hr0_1:Kd.C (Kd.int .i64) w A0_1 l0_1.length l0_1) (hc0_1:l0_1.length ≤ c0_1) (h:q27.f k l0_0 l0_1 a1 = some r) :
  Calls Try.prog 30 #[.agg #[.slice A0_0 l0_0.length c0_0,.slice A0_1 l0_1.length c0_1],.int .i64 a1] w fun e w'=>e = .returned (.int .i64 r) ∧ Below w.heap.size w w':=by
 have hu24:=Try.underlying24
 have HR0_0:=Aside0.mk hr0_0
 have HC0_0:=Aside0.mk hc0_0
 clear hr0_0 hc0_0
 have HR0_1:=Aside0.mk hr0_1
 have HC0_1:=Aside0.mk hc0_1
 clear hr0_1 hc0_1
 have HB:=zk (Below.refl w.heap.size w)
 have H:((q38.f k l0_0 l0_1 a1).bind fun t102=>(q27.l0 k t102 (t102.length:Int) 0 l0_0 l0_1)) = some r:=h
 clear h
 replace H:=Option.bind_eq_some_iff.mp H
 obtain ⟨t102,A30,H⟩:=H
 replace H:(q27.l0 k t102 (t102.length:Int) 0 l0_0 l0_1) = some r:=H
 have A3:=Aside0.mk A30
 clear A30
 have H':=Aside0.mk H
 clear H
 go_enter Try.func30,Try.ntmps30
 go_wp2_with (first|((with_reducible refine gate_dst (N:=2) rfl ?_);refine box_event ?hg (N:=2) ?hd (cs:=#[.slice A0_0 l0_0.length c0_0,.slice A0_1 l0_1.length c0_1]) (t:=24) ?hr ?_;(case hd=>rfl);(case hg=>rfl);(case hr=>first|(go_simp;done)|(go_simp;rfl));intro gb101 hg w4 hbox hb;have n0_:=zk (below_step (bq HB.out) hb);have n1_:=zk (hbox);have n2_:=zk ((by rw [hg];exact (below_size (bq HB.out)):w.heap.size ≤ gb101));have n3_:=zk ((by rw [hg];exact (below_size (bq HB.out)):w.heap.size ≤ gb101));clear HB;have HB:=n0_;have BK101:=n1_;have GW101:=n2_;have GE101:=n3_;clear n0_ n1_ n2_ n3_;clear hb hbox hg;have hcz5_0:w4.cell? ⟨gb101,0,none⟩ = some (.slice A0_0 l0_0.length c0_0):=(blk_cell BK101.out 0).trans rfl;have hcz5_1:w4.cell? ⟨gb101,1,none⟩ = some (.slice A0_1 l0_1.length c0_1):=(blk_cell BK101.out 1).trans rfl;have hfz5_0:=blk_frozen BK101.out 0;have hfz5_1:=blk_frozen BK101.out 1)|((with_reducible refine gate_callee (f:=25) rfl ?_);refine goesL_ (some 9) rfl rfl Try.func25 (by kernel_rfl) rfl #[.agg #[.slice A0_0 l0_0.length c0_0,.slice A0_1 l0_1.length c0_1],.int .i64 a1] rfl oF ?_;(with_reducible refine (q38.calls k _ _ l0_0 _ _ l0_1 a1 t102 _ ?side1 ?side2 ?side3 ?side4 A3.out).mono ?_);(case side1=>exact cq (Kd.C_below HR0_0.out HB.out));(case side2=>exact HC0_0.out);(case side3=>exact cq (Kd.C_below HR0_1.out HB.out));(case side4=>exact HC0_1.out);rintro e w6 ⟨v103,rfl,ho0,hb⟩;refine ⟨_,rfl,?_⟩;have n0_:=zk (Kd.R_lower ho0 (below_size (bg HB.out GE101 GE101)));have n1_:=zk (blk_below (g:=gb101) (o:=.cells #[.slice A0_0 l0_0.length c0_0,.slice A0_1 l0_1.length c0_1] 24 (0,0)) (hq BK101.out) hb);have n2_:=zk (below_step (bg HB.out GE101 GE101) hb);clear BK101;clear HB;have HO104:=n0_;have BK101:=n1_;have HB:=n2_;clear n0_ n1_ n2_;(try clear hb);(try clear hb2);(try clear hk);(try clear hi);(try clear ho0);obtain ⟨Ao7,co7,eo7⟩:=Kd.R_slice HO104.out;subst eo7))
 go_loopg [11] k (fun kq v11 w'=>∃ (x11_1:Int),v11 = .int .i64 x11_1 ∧ Aside0 (q27.l0 kq t102 (t102.length:Int) x11_1 l0_0 l0_1 = some r) ∧ Aside0 (kq ≤ k) ∧ Aside0 (Kd.R (Kd.int .i64) 3 w' w.heap.size (fun _=>True) (.slice Ao7 t102.length co7) t102) ∧ Aside0 (w'.heap[gb101]? = some (.cells #[(.slice A0_0 l0_0.length c0_0),(.slice A0_1 l0_1.length c0_1)] 24 (0,0))) ∧ Aside0 (Below w.heap.size w w'))
 case atStart=>exact ⟨(0),oE,H',⟨Nat.le_refl _⟩,⟨rq HO104.out⟩,⟨hq BK101.out⟩,⟨bg HB.out GE101 GE101⟩⟩
 case round =>
  clear H'
  try clear c2
  try clear p2
  try clear c3
  try clear hcz5_0
  try clear hcz5_1
  try clear hfz5_0
  try clear hfz5_1
  obtain ⟨x11_1,rfl,HA,HK1,HO_9,BK101,HB⟩:=hrel
  cases gk with
  | zero=>exact absurd HA.out (by simp [q27.l0])
  | succ k1 =>
   have H:=HA.out
   clear HA
   simp only [q27.l0] at H
   by_cases c8:x11_1 < (t102.length:Int)
   ·rw [if_pos c8] at H
    have c8b0:decide (x11_1 < (t102.length:Int)) = true:=decide_eq_true c8
    clear c8
    by_cases c9:0 ≤ x11_1
    ·rw [if_pos c9] at H
     have c9b0:decide (0 ≤ x11_1) = true:=decide_eq_true c9
     clear c9
     by_cases c10:x11_1 < (t102.length:Int)
     ·rw [if_pos c10] at H
      have c10b0:decide (x11_1 < (t102.length:Int)) = true:=decide_eq_true c10
      clear c10
      by_cases c11:0 ≤ (rd t102 x11_1)
      ·rw [if_pos c11] at H
       have c11b0:decide (0 ≤ (rd t102 x11_1)) = true:=decide_eq_true c11
       clear c11
       by_cases c12:(rd t102 x11_1) < (l0_0.length:Int)
       ·rw [if_pos c12] at H
        have c12b0:decide ((rd t102 x11_1) < (l0_0.length:Int)) = true:=decide_eq_true c12
        clear c12
        replace H:=Option.bind_eq_some_iff.mp H
        obtain ⟨t107,A130,H⟩:=H
        replace H:(if t107 = true then (some (rd t102 x11_1)) else (q27.l0 k1 t102 (t102.length:Int) (wrap64 (x11_1 + 1)) l0_0 l0_1)) = some r:=H
        have A13:=Aside0.mk A130
        clear A130
        by_cases c14:t107 = true
        ·subst c14
         have H1:(some (rd t102 x11_1)) = some r:=by rw [if_pos rfl] at H;exact H
         clear H
         have H:=H1
         clear H1
         obtain rfl:=Option.some.inj H
         have p105:0 ≤ (x11_1:Int):=oA
         have q105:x11_1 < (t102.length:Int):=oA
         obtain ⟨ad105,e105,hx105_0⟩:=Kd.at_int (Kd.R_reads' HO_9.out).2.2 x11_1 p105 q105
         cases e105
         replace p105:=eq_true p105
         replace q105:=eq_true q105
         have hcz15_0:wr.cell? ⟨gb101,0,none⟩ = some (.slice A0_0 l0_0.length c0_0):=(blk_cell BK101.out 0).trans rfl
         have hcz15_1:wr.cell? ⟨gb101,1,none⟩ = some (.slice A0_1 l0_1.length c0_1):=(blk_cell BK101.out 1).trans rfl
         have hfz15_0:=blk_frozen BK101.out 0
         have hfz15_1:=blk_frozen BK101.out 1
         have p106:0 ≤ ((rd t102 x11_1):Int):=oA
         have q106:(rd t102 x11_1) < (l0_0.length:Int):=oA
         obtain ⟨ad106,e106,hx106_0⟩:=Kd.at_int HR0_0.out (rd t102 x11_1) p106 q106
         cases e106
         replace hx106_0:=(HB.out.cell (World.block_lt_of_cell? w _ hx106_0)).trans hx106_0
         replace p106:=eq_true p106
         replace q106:=eq_true q106
         go_wp2_with (first|((with_reducible refine gate_callee (f:=45) rfl ?_);refine goesL_ (some 20) rfl rfl Try.func45 (by kernel_rfl) rfl #[.int .i64 (rd l0_0 (rd t102 x11_1))] rfl oF ?_;(with_reducible refine (q36.calls (rd l0_0 (rd t102 x11_1)) true _ A13.out).mono ?_);rintro e w' ⟨rfl,⟨nd,rfl⟩⟩;refine ⟨_,rfl,?_⟩))
         go_ret
         exact ⟨by first|rfl|(simp [errW_none,errW_some] <;> rfl)|(simp [*,errW_none,errW_some] <;> rfl),bg HB.out GE101 GE101⟩
        ·replace c14:=Bool.eq_false_iff.mpr c14
         subst c14
         have H1:(q27.l0 k1 t102 (t102.length:Int) (wrap64 (x11_1 + 1)) l0_0 l0_1) = some r:=by rw [if_neg (show ¬ (false = true) by decide)] at H;exact H
         clear H
         have H:=H1
         clear H1
         have H':=Aside0.mk H
         clear H
         have p105:0 ≤ (x11_1:Int):=oA
         have q105:x11_1 < (t102.length:Int):=oA
         obtain ⟨ad105,e105,hx105_0⟩:=Kd.at_int (Kd.R_reads' HO_9.out).2.2 x11_1 p105 q105
         cases e105
         replace p105:=eq_true p105
         replace q105:=eq_true q105
         have hcz16_0:wr.cell? ⟨gb101,0,none⟩ = some (.slice A0_0 l0_0.length c0_0):=(blk_cell BK101.out 0).trans rfl
         have hcz16_1:wr.cell? ⟨gb101,1,none⟩ = some (.slice A0_1 l0_1.length c0_1):=(blk_cell BK101.out 1).trans rfl
         have hfz16_0:=blk_frozen BK101.out 0
         have hfz16_1:=blk_frozen BK101.out 1
         have p106:0 ≤ ((rd t102 x11_1):Int):=oA
         have q106:(rd t102 x11_1) < (l0_0.length:Int):=oA
         obtain ⟨ad106,e106,hx106_0⟩:=Kd.at_int HR0_0.out (rd t102 x11_1) p106 q106
         cases e106
         replace hx106_0:=(HB.out.cell (World.block_lt_of_cell? w _ hx106_0)).trans hx106_0
         replace p106:=eq_true p106
         replace q106:=eq_true q106
         go_wp2_with (first|((with_reducible refine gate_callee (f:=45) rfl ?_);refine goesL_ (some 20) rfl rfl Try.func45 (by kernel_rfl) rfl #[.int .i64 (rd l0_0 (rd t102 x11_1))] rfl oF ?_;(with_reducible refine (q36.calls (rd l0_0 (rd t102 x11_1)) false _ A13.out).mono ?_);rintro e w' ⟨rfl,⟨nd,rfl⟩⟩;refine ⟨_,rfl,?_⟩))
         go_roundg k1
         case measure=>have:=HK1.out;omega
         case rel=>exact ⟨(wrap64 (x11_1 + 1)),oE,H',⟨by have:=HK1.out;omega⟩,⟨rq HO_9.out⟩,⟨hq BK101.out⟩,⟨bg HB.out GE101 GE101⟩⟩
       ·rw [if_neg c12] at H
        exact absurd H (by simp)
      ·rw [if_neg c11] at H
       exact absurd H (by simp)
     ·rw [if_neg c10] at H
      exact absurd H (by simp)
    ·rw [if_neg c9] at H
     exact absurd H (by simp)
   ·rw [if_neg c8] at H
    have c8b0:decide (x11_1 < (t102.length:Int)) = false:=decide_eq_false c8
    clear c8
    obtain rfl:=Option.some.inj H
    go_wp2
    go_ret
    exact ⟨by first|rfl|(simp [errW_none,errW_some] <;> rfl)|(simp [*,errW_none,errW_some] <;> rfl),bg HB.out GE101 GE101⟩
mutual
def q30.j0:Nat → Int → Bool → List Int → List Int → Option (Bool)
 | 0,_,_,_,_=>none
 | k + 1,x3,x23,x102000,x102001=>if x23 = true then (some false) else (q30.l0 k x3 x102000 (x102000.length:Int) 0 x102000 x102001)
def q30.l0:Nat → Int → List Int → Int → Int → List Int → List Int → Option (Bool)
 | 0,_,_,_,_,_,_=>none
 | k + 1,x3,x25,x26,x27,x102000,x102001=>if x27 < x26 then (if 0 ≤ x27 then (if x27 < (x25.length:Int) then (if x27 < (x102001.length:Int) then (if (rd x25 x27) < 1 then (q30.j2 k x3 (rd x25 x27) (rd x102001 x27) x25 x26 x27 true x102000 x102001) else (if (rd x25 x27) > 4 then (q30.j2 k x3 (rd x25 x27) (rd x102001 x27) x25 x26 x27 true x102000 x102001) else (if (rd x102001 x27) < (-1) then (q30.j2 k x3 (rd x25 x27) (rd x102001 x27) x25 x26 x27 true x102000 x102001) else (q30.j2 k x3 (rd x25 x27) (rd x102001 x27) x25 x26 x27 (decide ((rd x102001 x27) ≥ x27)) x102000 x102001)))) else (none)) else (none)) else (none)) else (q30.l1 k x3 (-1) x102000 x102001)
def q30.j2:Nat → Int → Int → Int → List Int → Int → Int → Bool → List Int → List Int → Option (Bool)
 | 0,_,_,_,_,_,_,_,_,_=>none
 | k + 1,x3,x5,x6,x25,x26,x27,x51,x102000,x102001=>if x51 = true then (some false) else (if x6 = (-1) then ((q36.f x5).bind fun t104=>(if t104 = true then (q30.l0 k x3 x25 x26 (wrap64 (x27 + 1)) x102000 x102001) else (some false))) else (if 0 ≤ x6 then (if x6 < (x102000.length:Int) then ((q36.f (rd x102000 x6)).bind fun t106=>(if t106 = true then ((q36.f x5).bind fun t107=>(if t107 = true then (q30.l0 k x3 x25 x26 (wrap64 (x27 + 1)) x102000 x102001) else (if (rd x102000 x6) = 1 then (q30.l0 k x3 x25 x26 (wrap64 (x27 + 1)) x102000 x102001) else (some false)))) else (some false))) else (none)) else (none)))
def q30.l1:Nat → Int → Int → List Int → List Int → Option (Bool)
 | 0,_,_,_,_=>none
 | k + 1,x3,x7,x102000,x102001=>if x7 < x3 then (if x7 = (-1) then ((q27.f k x102000 x102001 x7).bind fun t109=>(if t109 < 0 then (some false) else (q30.l1 k x3 (wrap64 (x7 + 1)) x102000 x102001))) else ((q38.f k x102000 x102001 x7).bind fun t110=>(if (t110.length:Int) > 0 then ((q27.f k x102000 x102001 x7).bind fun t113=>(if t113 < 0 then (some false) else (q30.l1 k x3 (wrap64 (x7 + 1)) x102000 x102001))) else (q30.l1 k x3 (wrap64 (x7 + 1)) x102000 x102001)))) else (some true)
end
def q30.f (k:Nat) (l0_0:List Int) (l0_1:List Int):Option (Bool):=if (l0_0.length:Int) < 1 then (q30.j0 k (l0_0.length:Int) true l0_0 l0_1) else (if (l0_0.length:Int) > 24 then (q30.j0 k (l0_0.length:Int) true l0_0 l0_1) else (q30.j0 k (l0_0.length:Int) ((l0_1.length:Int) != (l0_0.length:Int)) l0_0 l0_1))
def q1.l0:Nat → List Int → Int → Int → List Int → List Int → Option (Int)
 | 0,_,_,_,_,_=>none
 | k + 1,x9,x10,x11,x102000,x102001=>if x11 < x10 then (if 0 ≤ x11 then (if x11 < (x9.length:Int) then (if 0 ≤ (rd x9 x11) then (if (rd x9 x11) < (x102000.length:Int) then (if (rd x102000 (rd x9 x11)) ≤ 2 then (some (rd x9 x11)) else (q1.l0 k x9 x10 (wrap64 (x11 + 1)) x102000 x102001)) else (none)) else (none)) else (none)) else (none)) else (some (-1))
def q1.f (k:Nat) (l0_0:List Int) (l0_1:List Int) (a1:Int):Option (Int):=(q7.f k l0_0 l0_1 a1).bind fun t102=>(q1.l0 k t102 (t102.length:Int) 0 l0_0 l0_1)
set_option maxHeartbeats 8000000 in
set_option maxRecDepth 100000 in
theorem q1.calls (k:Nat) (A0_0:Option Addr) (c0_0:Nat) (l0_0:List Int) (A0_1:Option Addr) (c0_1:Nat) (l0_1:List Int) (a1:Int) (r:Int) (w:World) (hr0_0:Kd.C (Kd.int .i64) w A0_0 l0_0.length l0_0) (hc0_0:l0_0.length ≤ c0_0) (hr0_1:Kd.C (Kd.int .i64) w A0_1 l0_1.length l0_1) (hc0_1:l0_1.length ≤ c0_1) (h:q1.f k l0_0 l0_1 a1 = some r) :
  Calls Try.prog 47 #[.agg #[.slice A0_0 l0_0.length c0_0,.slice A0_1 l0_1.length c0_1],.int .i64 a1] w fun e w'=>e = .returned (.int .i64 r) ∧ Below w.heap.size w w':=by
 have hu25:=Try.underlying25
 have HR0_0:=Aside0.mk hr0_0
 have HC0_0:=Aside0.mk hc0_0
 clear hr0_0 hc0_0
 have HR0_1:=Aside0.mk hr0_1
 have HC0_1:=Aside0.mk hc0_1
 clear hr0_1 hc0_1
 have HB:=zk (Below.refl w.heap.size w)
 have H:((q7.f k l0_0 l0_1 a1).bind fun t102=>(q1.l0 k t102 (t102.length:Int) 0 l0_0 l0_1)) = some r:=h
 clear h
 replace H:=Option.bind_eq_some_iff.mp H
 obtain ⟨t102,A30,H⟩:=H
 replace H:(q1.l0 k t102 (t102.length:Int) 0 l0_0 l0_1) = some r:=H
 have A3:=Aside0.mk A30
 clear A30
 have H':=Aside0.mk H
 clear H
 go_enter Try.func47,Try.ntmps47
 go_wp2_with (first|((with_reducible refine gate_dst (N:=2) rfl ?_);refine box_event ?hg (N:=2) ?hd (cs:=#[.slice A0_0 l0_0.length c0_0,.slice A0_1 l0_1.length c0_1]) (t:=25) ?hr ?_;(case hd=>rfl);(case hg=>rfl);(case hr=>first|(go_simp;done)|(go_simp;rfl));intro gb101 hg w4 hbox hb;have n0_:=zk (below_step (bq HB.out) hb);have n1_:=zk (hbox);have n2_:=zk ((by rw [hg];exact (below_size (bq HB.out)):w.heap.size ≤ gb101));have n3_:=zk ((by rw [hg];exact (below_size (bq HB.out)):w.heap.size ≤ gb101));clear HB;have HB:=n0_;have BK101:=n1_;have GW101:=n2_;have GE101:=n3_;clear n0_ n1_ n2_ n3_;clear hb hbox hg;have hcz5_0:w4.cell? ⟨gb101,0,none⟩ = some (.slice A0_0 l0_0.length c0_0):=(blk_cell BK101.out 0).trans rfl;have hcz5_1:w4.cell? ⟨gb101,1,none⟩ = some (.slice A0_1 l0_1.length c0_1):=(blk_cell BK101.out 1).trans rfl;have hfz5_0:=blk_frozen BK101.out 0;have hfz5_1:=blk_frozen BK101.out 1)|((with_reducible refine gate_callee (f:=46) rfl ?_);refine goesL_ (some 9) rfl rfl Try.func46 (by kernel_rfl) rfl #[.agg #[.slice A0_0 l0_0.length c0_0,.slice A0_1 l0_1.length c0_1],.int .i64 a1] rfl oF ?_;(with_reducible refine (q7.calls k _ _ l0_0 _ _ l0_1 a1 t102 _ ?side1 ?side2 ?side3 ?side4 A3.out).mono ?_);(case side1=>exact cq (Kd.C_below HR0_0.out HB.out));(case side2=>exact HC0_0.out);(case side3=>exact cq (Kd.C_below HR0_1.out HB.out));(case side4=>exact HC0_1.out);rintro e w6 ⟨v103,rfl,ho0,hb⟩;refine ⟨_,rfl,?_⟩;have n0_:=zk (Kd.R_lower ho0 (below_size (bg HB.out GE101 GE101)));have n1_:=zk (blk_below (g:=gb101) (o:=.cells #[.slice A0_0 l0_0.length c0_0,.slice A0_1 l0_1.length c0_1] 25 (0,0)) (hq BK101.out) hb);have n2_:=zk (below_step (bg HB.out GE101 GE101) hb);clear BK101;clear HB;have HO104:=n0_;have BK101:=n1_;have HB:=n2_;clear n0_ n1_ n2_;(try clear hb);(try clear hb2);(try clear hk);(try clear hi);(try clear ho0);obtain ⟨Ao7,co7,eo7⟩:=Kd.R_slice HO104.out;subst eo7))
 go_loopg [11] k (fun kq v11 w'=>∃ (x11_1:Int),v11 = .int .i64 x11_1 ∧ Aside0 (q1.l0 kq t102 (t102.length:Int) x11_1 l0_0 l0_1 = some r) ∧ Aside0 (kq ≤ k) ∧ Aside0 (Kd.R (Kd.int .i64) 3 w' w.heap.size (fun _=>True) (.slice Ao7 t102.length co7) t102) ∧ Aside0 (w'.heap[gb101]? = some (.cells #[(.slice A0_0 l0_0.length c0_0),(.slice A0_1 l0_1.length c0_1)] 25 (0,0))) ∧ Aside0 (Below w.heap.size w w'))
 case atStart=>exact ⟨(0),oE,H',⟨Nat.le_refl _⟩,⟨rq HO104.out⟩,⟨hq BK101.out⟩,⟨bg HB.out GE101 GE101⟩⟩
 case round =>
  clear H'
  try clear p2
  try clear c4
  try clear hcz5_0
  try clear hcz5_1
  try clear hfz5_0
  try clear hfz5_1
  obtain ⟨x11_1,rfl,HA,HK1,HO_9,BK101,HB⟩:=hrel
  cases gk with
  | zero=>exact absurd HA.out (by simp [q1.l0])
  | succ k1 =>
   have H:=HA.out
   clear HA
   simp only [q1.l0] at H
   by_cases c8:x11_1 < (t102.length:Int)
   ·rw [if_pos c8] at H
    have c8b0:decide (x11_1 < (t102.length:Int)) = true:=decide_eq_true c8
    clear c8
    by_cases c9:0 ≤ x11_1
    ·rw [if_pos c9] at H
     have c9b0:decide (0 ≤ x11_1) = true:=decide_eq_true c9
     clear c9
     by_cases c10:x11_1 < (t102.length:Int)
     ·rw [if_pos c10] at H
      have c10b0:decide (x11_1 < (t102.length:Int)) = true:=decide_eq_true c10
      clear c10
      by_cases c11:0 ≤ (rd t102 x11_1)
      ·rw [if_pos c11] at H
       have c11b0:decide (0 ≤ (rd t102 x11_1)) = true:=decide_eq_true c11
       clear c11
       by_cases c12:(rd t102 x11_1) < (l0_0.length:Int)
       ·rw [if_pos c12] at H
        have c12b0:decide ((rd t102 x11_1) < (l0_0.length:Int)) = true:=decide_eq_true c12
        clear c12
        by_cases c13:(rd l0_0 (rd t102 x11_1)) ≤ 2
        ·rw [if_pos c13] at H
         have c13b0:decide ((rd l0_0 (rd t102 x11_1)) ≤ 2) = true:=decide_eq_true c13
         clear c13
         obtain rfl:=Option.some.inj H
         have p105:0 ≤ (x11_1:Int):=oA
         have q105:x11_1 < (t102.length:Int):=oA
         obtain ⟨ad105,e105,hx105_0⟩:=Kd.at_int (Kd.R_reads' HO_9.out).2.2 x11_1 p105 q105
         cases e105
         replace p105:=eq_true p105
         replace q105:=eq_true q105
         have hcz14_0:wr.cell? ⟨gb101,0,none⟩ = some (.slice A0_0 l0_0.length c0_0):=(blk_cell BK101.out 0).trans rfl
         have hcz14_1:wr.cell? ⟨gb101,1,none⟩ = some (.slice A0_1 l0_1.length c0_1):=(blk_cell BK101.out 1).trans rfl
         have hfz14_0:=blk_frozen BK101.out 0
         have hfz14_1:=blk_frozen BK101.out 1
         have p106:0 ≤ ((rd t102 x11_1):Int):=oA
         have q106:(rd t102 x11_1) < (l0_0.length:Int):=oA
         obtain ⟨ad106,e106,hx106_0⟩:=Kd.at_int HR0_0.out (rd t102 x11_1) p106 q106
         cases e106
         replace hx106_0:=(HB.out.cell (World.block_lt_of_cell? w _ hx106_0)).trans hx106_0
         replace p106:=eq_true p106
         replace q106:=eq_true q106
         go_wp2
         go_ret
         exact ⟨by first|rfl|(simp [errW_none,errW_some] <;> rfl)|(simp [*,errW_none,errW_some] <;> rfl),bg HB.out GE101 GE101⟩
        ·rw [if_neg c13] at H
         have c13b0:decide ((rd l0_0 (rd t102 x11_1)) ≤ 2) = false:=decide_eq_false c13
         clear c13
         have H':=Aside0.mk H
         clear H
         have p105:0 ≤ (x11_1:Int):=oA
         have q105:x11_1 < (t102.length:Int):=oA
         obtain ⟨ad105,e105,hx105_0⟩:=Kd.at_int (Kd.R_reads' HO_9.out).2.2 x11_1 p105 q105
         cases e105
         replace p105:=eq_true p105
         replace q105:=eq_true q105
         have hcz15_0:wr.cell? ⟨gb101,0,none⟩ = some (.slice A0_0 l0_0.length c0_0):=(blk_cell BK101.out 0).trans rfl
         have hcz15_1:wr.cell? ⟨gb101,1,none⟩ = some (.slice A0_1 l0_1.length c0_1):=(blk_cell BK101.out 1).trans rfl
         have hfz15_0:=blk_frozen BK101.out 0
         have hfz15_1:=blk_frozen BK101.out 1
         have p106:0 ≤ ((rd t102 x11_1):Int):=oA
         have q106:(rd t102 x11_1) < (l0_0.length:Int):=oA
         obtain ⟨ad106,e106,hx106_0⟩:=Kd.at_int HR0_0.out (rd t102 x11_1) p106 q106
         cases e106
         replace hx106_0:=(HB.out.cell (World.block_lt_of_cell? w _ hx106_0)).trans hx106_0
         replace p106:=eq_true p106
         replace q106:=eq_true q106
         go_wp2
         go_roundg k1
         case measure=>have:=HK1.out;omega
         case rel=>exact ⟨(wrap64 (x11_1 + 1)),oE,H',⟨by have:=HK1.out;omega⟩,⟨rq HO_9.out⟩,⟨hq BK101.out⟩,⟨bg HB.out GE101 GE101⟩⟩
       ·rw [if_neg c12] at H
        exact absurd H (by simp)
      ·rw [if_neg c11] at H
       exact absurd H (by simp)
     ·rw [if_neg c10] at H
      exact absurd H (by simp)
    ·rw [if_neg c9] at H
     exact absurd H (by simp)
   ·rw [if_neg c8] at H
    have c8b0:decide (x11_1 < (t102.length:Int)) = false:=decide_eq_false c8
    clear c8
    obtain rfl:=Option.some.inj H
    go_wp2
    go_ret
    exact ⟨by first|rfl|(simp [errW_none,errW_some] <;> rfl)|(simp [*,errW_none,errW_some] <;> rfl),bg HB.out GE101 GE101⟩
end Go.Proofs.Ytnomeokicfpidaa.Q
