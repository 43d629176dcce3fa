-- merged and slimmed by slim.py (a program of this repo)
import Derived.Test.YtnomeokicfpidaaKEnterProper0
namespace Go.Proofs.Ytnomeokicfpidaa.Q
open Go.RowKit Go.Proofs.YtnomeokicfpidaaW.PrintWords Go.Proofs.YtnomeokicfpidaaW.PrintLast Go.Proofs.YtnomeokicfpidaaW.PrintMore
attribute [local go_sem] max2_int min2_int max_two min_two max_three min_three max_four min_four
set_option linter.unusedVariables false
set_option linter.unusedSimpArgs false
def q30.f (a0:Int):Option (Int):=if 0 ≤ a0 then (if a0 ≤ 4294967295 then some ((Lib.bitLen a0.toNat:Nat):Int) else none) else none
theorem q30.calls (a0:Int) (r:Int) (w:World) (h:q30.f a0 = some r) :
  Calls Try.prog 43 #[.int .u32 a0] w fun e w'=>e = .returned (.int .i64 r) ∧ Drawn0 w w':=by
 unfold q30.f at h
 by_cases h0:0 ≤ a0
 ·rw [if_pos h0] at h
  by_cases h1:a0 ≤ 4294967295
  ·rw [if_pos h1] at h
   obtain rfl:=Option.some.inj h
   refine (Try.bits_Len32 a0 w h0 h1).mono ?_
   rintro e w' ⟨rfl,rfl⟩
   exact ⟨rfl,Drawn0.refl _⟩
  ·rw [if_neg h1] at h;exact absurd h (by simp)
 ·rw [if_neg h0] at h;exact absurd h (by simp)
def q29.l0:Nat → Int → List Int → List Int → Int → Int → Option (List Int)
 | 0,_,_,_,_,_=>none
 | k + 1,x1,x5,x9,x10,x11=>if x11 < x10 then (if 0 ≤ x11 then (if x11 < (x9.length:Int) then (if (rd x9 x11) = x1 then (if x5.length < 17592186044416 then (q29.l0 k x1 (x5 ++ [x11]) x9 x10 (wrap64 (x11 + 1))) else (none)) else (q29.l0 k x1 x5 x9 x10 (wrap64 (x11 + 1)))) else (none)) else (none)) else (some x5)
def q29.f (k:Nat) (l0_0:List Int) (l0_1:List Int) (a1:Int):Option (List Int):=q29.l0 k a1 ([]:List Int) l0_1 (l0_1.length:Int) 0
set_option maxHeartbeats 8000000 in
set_option maxRecDepth 100000 in
theorem q29.calls (k:Nat) (A0_0:Option Addr) (c0_0:Nat) (l0_0:List Int) (A0_1:Option Addr) (c0_1:Nat) (l0_1:List Int) (a1:Int) (r:List Int) (w:World) (hr0_0:Kd.C (Kd.int .i64) w A0_0 l0_0.length l0_0) (hc0_0:l0_0.length ≤ c0_0) (hr0_1:Kd.C (Kd.int .i64) w A0_1 l0_1.length l0_1) (hc0_1:l0_1.length ≤ c0_1) (h:q29.f k l0_0 l0_1 a1 = some r) :
  Calls Try.prog 25 #[.agg #[.slice A0_0 l0_0.length c0_0,.slice A0_1 l0_1.length c0_1],.int .i64 a1] w fun e w'=>∃ v0_:Value,e = .returned (v0_) ∧ Kd.R (Kd.int .i64) 3 w' w.heap.size (fun _=>True) v0_ r ∧ Below w.heap.size w w':=by
 have hu24:=Try.underlying24
 have HR0_0:=Aside0.mk hr0_0
 have HC0_0:=Aside0.mk hc0_0
 clear hr0_0 hc0_0
 have HR0_1:=Aside0.mk hr0_1
 have HC0_1:=Aside0.mk hc0_1
 clear hr0_1 hc0_1
 have HB:=zk (Below.refl w.heap.size w)
 have H:(q29.l0 k a1 ([]:List Int) l0_1 (l0_1.length:Int) 0) = some r:=h
 clear h
 have H':=Aside0.mk H
 clear H
 go_enter Try.func25,Try.ntmps25
 go_wp2_with (first|((with_reducible refine gate_dst (N:=2) rfl ?_);refine box_event ?hg (N:=2) ?hd (cs:=#[.slice A0_0 l0_0.length c0_0,.slice A0_1 l0_1.length c0_1]) (t:=24) ?hr ?_;(case hd=>rfl);(case hg=>rfl);(case hr=>first|(go_simp;done)|(go_simp;rfl));intro gb101 hg w3 hbox hb;have n0_:=zk (below_step (bq HB.out) hb);have n1_:=zk (hbox);have n2_:=zk ((by rw [hg];exact (below_size (bq HB.out)):w.heap.size ≤ gb101));have n3_:=zk ((by rw [hg];exact (below_size (bq HB.out)):w.heap.size ≤ gb101));clear HB;have HB:=n0_;have BK101:=n1_;have GW101:=n2_;have GE101:=n3_;clear n0_ n1_ n2_ n3_;clear hb hbox hg;have hcz4_0:w3.cell? ⟨gb101,0,none⟩ = some (.slice A0_0 l0_0.length c0_0):=(blk_cell BK101.out 0).trans rfl;have hcz4_1:w3.cell? ⟨gb101,1,none⟩ = some (.slice A0_1 l0_1.length c0_1):=(blk_cell BK101.out 1).trans rfl;have hfz4_0:=blk_frozen BK101.out 0;have hfz4_1:=blk_frozen BK101.out 1))
 go_loopg [5,11] k (fun kq v5 v11 w'=>∃ (x5_1:List Int) (x11_1:Int),v11 = .int .i64 x11_1 ∧ Aside0 (q29.l0 kq a1 x5_1 l0_1 (l0_1.length:Int) x11_1 = some r) ∧ Aside0 (kq ≤ k) ∧ Aside0 (Kd.R (Kd.int .i64) 3 w' w.heap.size (fun _=>True) v5 x5_1) ∧ Aside0 (w'.heap[gb101]? = some (.cells #[(.slice A0_0 l0_0.length c0_0),(.slice A0_1 l0_1.length c0_1)] 24 (0,0))) ∧ Aside0 (Below w.heap.size w w'))
 case atStart=>exact ⟨(([]:List Int)),(0),oE,H',⟨Nat.le_refl _⟩,⟨by first|exact Kd.R_nil _ _ _ _ _|exact Kd.N_nil _ _ _ _ _|exact Kd.V_nil _ _ _ _ _|exact Kd.Q_nil _ _ _ _ _|exact Kd.S_nil _ _ _ _ _⟩,⟨hq BK101.out⟩,⟨bg HB.out GE101 GE101⟩⟩
 case round =>
  clear H'
  try clear c2
  try clear p2
  try clear hcz4_0
  try clear hcz4_1
  try clear hfz4_0
  try clear hfz4_1
  obtain ⟨x5_1,x11_1,rfl,HA,HK1,HO_5,BK101,HB⟩:=hrel
  cases gk with
  | zero=>exact absurd HA.out (by simp [q29.l0])
  | succ k1 =>
   have H:=HA.out
   clear HA
   simp only [q29.l0] at H
   by_cases c5:x11_1 < (l0_1.length:Int)
   ·rw [if_pos c5] at H
    have c5b0:decide (x11_1 < (l0_1.length:Int)) = true:=decide_eq_true c5
    clear c5
    by_cases c6:0 ≤ x11_1
    ·rw [if_pos c6] at H
     have c6b0:decide (0 ≤ x11_1) = true:=decide_eq_true c6
     clear c6
     by_cases c7:x11_1 < (l0_1.length:Int)
     ·rw [if_pos c7] at H
      have c7b0:decide (x11_1 < (l0_1.length:Int)) = true:=decide_eq_true c7
      clear c7
      by_cases c8:(rd l0_1 x11_1) = a1
      ·rw [if_pos c8] at H
       have c8b0:((rd l0_1 x11_1) == a1) = true:=beq_iff_eq.mpr c8
       have c8b1:((rd l0_1 x11_1) != a1) = false:=bne_eq_false_iff_eq.mpr c8
       clear c8
       by_cases c9:x5_1.length < 17592186044416
       ·rw [if_pos c9] at H
        have LMc9:=Aside0.mk c9
        clear c9
        obtain ⟨y103,hy103⟩:∃ y_:List Int,y_ = (x5_1 ++ [x11_1]):=⟨_,rfl⟩
        replace H:(q29.l0 k1 a1 y103 l0_1 (l0_1.length:Int) (wrap64 (x11_1 + 1))) = some r:=by first|(rw [hy103];with_reducible exact H)|(have H2_:=(Option.bind_some _ _).symm.trans H;rw [hy103];with_reducible exact H2_)|(have H2_:=(Option.bind_some _ _).symm.trans H;with_reducible exact H2_)|with_reducible exact H|(rw [hy103];exact H)|exact H
        have Ny103:=Aside0.mk hy103
        clear hy103
        have H':=Aside0.mk H
        clear H
        have p102:0 ≤ (x11_1:Int):=oA
        have q102:x11_1 < (l0_1.length:Int):=oA
        obtain ⟨ad102,e102,hx102_0⟩:=Kd.at_int HR0_1.out x11_1 p102 q102
        cases e102
        replace hx102_0:=(HB.out.cell (World.block_lt_of_cell? w _ hx102_0)).trans hx102_0
        replace p102:=eq_true p102
        replace q102:=eq_true q102
        go_wp2_with (first|((with_reducible refine gate_builtin (b:=.append) (xs:=#[.tmp 19,.tmp 21]) rfl ?_);at_builtin;refine Kd.R_append (Kd.int .i64) (w0:=w) w.heap.size rfl (.tmp 19) (.tmp 21) 22 3 (.int .i64 0) 8 rfl Try.underlying22 info3 rfl (by decide) (by omega) u5 x5_1 x11_1 [.int .i64 x11_1] (fun _=>True) (fun _=>False) rfl rfl ?aP (fun _ hk=>hk.elim) ?aF ?aO ?aB ?aS ?aL ?_;(case aP=>exact rfl);(case aB=>exact (bg HB.out GE101 GE101));(case aF=>exact (fun _ _=>trivial));(case aO=>exact (rq HO_5.out));(case aS=>exact (below_size (bg HB.out GE101 GE101)));(case aL=>have:=LMc9.out;omega);intro v104 w10 ho hb hg hat;rw [← Ny103.out] at ho;have n0_:=zk (blk_grown (g:=gb101) (o:=.cells #[.slice A0_0 l0_0.length c0_0,.slice (some ad102) l0_1.length c0_1] 24 (0,0)) (hq BK101.out) hg (Kd.R_ne HO_5.out BK101.out (by decide)));have n1_:=zk (hb);have n2_:=zk (ho);clear BK101;clear HB;clear HO_5;have BK101:=n0_;have HB:=n1_;have HO105:=n2_;clear n0_ n1_ n2_;clear ho hb hg hat))
        go_roundg k1
        case measure=>have:=HK1.out;omega
        case rel=>exact ⟨(y103),(wrap64 (x11_1 + 1)),oE,H',⟨by have:=HK1.out;omega⟩,⟨rq HO105.out⟩,⟨hq BK101.out⟩,⟨bg HB.out GE101 GE101⟩⟩
       ·rw [if_neg c9] at H
        exact absurd H (by simp)
      ·rw [if_neg c8] at H
       have c8b0:((rd l0_1 x11_1) == a1) = false:=beq_eq_false_iff_ne.mpr c8
       have c8b1:((rd l0_1 x11_1) != a1) = true:=bne_iff_ne.mpr c8
       have H':=Aside0.mk H
       clear H
       have p102:0 ≤ (x11_1:Int):=oA
       have q102:x11_1 < (l0_1.length:Int):=oA
       obtain ⟨ad102,e102,hx102_0⟩:=Kd.at_int HR0_1.out x11_1 p102 q102
       cases e102
       replace hx102_0:=(HB.out.cell (World.block_lt_of_cell? w _ hx102_0)).trans hx102_0
       replace p102:=eq_true p102
       replace q102:=eq_true q102
       go_wp2
       go_roundg k1
       case measure=>have:=HK1.out;omega
       case rel=>exact ⟨(x5_1),(wrap64 (x11_1 + 1)),oE,H',⟨by have:=HK1.out;omega⟩,⟨rq HO_5.out⟩,⟨hq BK101.out⟩,⟨bg HB.out GE101 GE101⟩⟩
     ·rw [if_neg c7] at H
      exact absurd H (by simp)
    ·rw [if_neg c6] at H
     exact absurd H (by simp)
   ·rw [if_neg c5] at H
    have c5b0:decide (x11_1 < (l0_1.length:Int)) = false:=decide_eq_false c5
    clear c5
    obtain rfl:=Option.some.inj H
    go_wp2
    go_ret
    exact ⟨_,by first|rfl|(simp [errW_none,errW_some] <;> rfl)|(simp [*,errW_none,errW_some] <;> rfl),rq HO_5.out,bg HB.out GE101 GE101⟩
def q28.l0:Nat → Int → Bool → List Int → Int → List Int → Int → Int → Option (Bool)
 | 0,_,_,_,_,_,_,_=>none
 | k + 1,x1,x3,x9,x10,x16,x17,x18=>if x18 < x17 then (if 0 ≤ x18 then (if x18 < (x16.length:Int) then (if 0 ≤ (rd x16 x18) then (if (Go.bits .and .u32 (shr .u32 x1 (rd x16 x18)) 1) = 1 then (q28.l0 k x1 x3 x9 (wrap64 (x10 + 1)) x16 x17 (wrap64 (x18 + 1))) else (q28.l0 k x1 x3 x9 x10 x16 x17 (wrap64 (x18 + 1)))) else (none)) else (none)) else (none)) else (if x3 = true then (some (x10 == (mn 1 (x9.length:Int)))) else (some (x10 == (x9.length:Int))))
def q28.f (k:Nat) (l0_0:List Int) (l0_1:List Int) (a1:Int) (a2:Int) (a3:Bool):Option (Bool):=(q29.f k l0_0 l0_1 a2).bind fun t102=>(q28.l0 k a1 a3 t102 0 t102 (t102.length:Int) 0)
set_option maxHeartbeats 8000000 in
set_option maxRecDepth 100000 in
theorem q28.calls (k:Nat) (A0_0:Option Addr) (c0_0:Nat) (l0_0:List Int) (A0_1:Option Addr) (c0_1:Nat) (l0_1:List Int) (a1:Int) (a2:Int) (a3:Bool) (r:Bool) (w:World) (hr0_0:Kd.C (Kd.int .i64) w A0_0 l0_0.length l0_0) (hc0_0:l0_0.length ≤ c0_0) (hr0_1:Kd.C (Kd.int .i64) w A0_1 l0_1.length l0_1) (hc0_1:l0_1.length ≤ c0_1) (h:q28.f k l0_0 l0_1 a1 a2 a3 = some r) :
  Calls Try.prog 44 #[.agg #[.slice A0_0 l0_0.length c0_0,.slice A0_1 l0_1.length c0_1],.int .u32 a1,.int .i64 a2,.bool a3] w fun e w'=>e = .returned (.bool r) ∧ Below w.heap.size w w':=by
 have hu24:=Try.underlying24
 have HR0_0:=Aside0.mk hr0_0
 have HC0_0:=Aside0.mk hc0_0
 clear hr0_0 hc0_0
 have HR0_1:=Aside0.mk hr0_1
 have HC0_1:=Aside0.mk hc0_1
 clear hr0_1 hc0_1
 have HB:=zk (Below.refl w.heap.size w)
 have H:((q29.f k l0_0 l0_1 a2).bind fun t102=>(q28.l0 k a1 a3 t102 0 t102 (t102.length:Int) 0)) = some r:=h
 clear h
 replace H:=Option.bind_eq_some_iff.mp H
 obtain ⟨t102,A50,H⟩:=H
 replace H:(q28.l0 k a1 a3 t102 0 t102 (t102.length:Int) 0) = some r:=H
 have A5:=Aside0.mk A50
 clear A50
 have H':=Aside0.mk H
 clear H
 go_enter Try.func44,Try.ntmps44
 go_wp2_with (first|((with_reducible refine gate_dst (N:=4) rfl ?_);refine box_event ?hg (N:=4) ?hd (cs:=#[.slice A0_0 l0_0.length c0_0,.slice A0_1 l0_1.length c0_1]) (t:=24) ?hr ?_;(case hd=>rfl);(case hg=>rfl);(case hr=>first|(go_simp;done)|(go_simp;rfl));intro gb101 hg w6 hbox hb;have n0_:=zk (below_step (bq HB.out) hb);have n1_:=zk (hbox);have n2_:=zk ((by rw [hg];exact (below_size (bq HB.out)):w.heap.size ≤ gb101));have n3_:=zk ((by rw [hg];exact (below_size (bq HB.out)):w.heap.size ≤ gb101));clear HB;have HB:=n0_;have BK101:=n1_;have GW101:=n2_;have GE101:=n3_;clear n0_ n1_ n2_ n3_;clear hb hbox hg;have hcz7_0:w6.cell? ⟨gb101,0,none⟩ = some (.slice A0_0 l0_0.length c0_0):=(blk_cell BK101.out 0).trans rfl;have hcz7_1:w6.cell? ⟨gb101,1,none⟩ = some (.slice A0_1 l0_1.length c0_1):=(blk_cell BK101.out 1).trans rfl;have hfz7_0:=blk_frozen BK101.out 0;have hfz7_1:=blk_frozen BK101.out 1)|((with_reducible refine gate_callee (f:=25) rfl ?_);refine goesL_ (some 15) rfl rfl Try.func25 (by kernel_rfl) rfl #[.agg #[.slice A0_0 l0_0.length c0_0,.slice A0_1 l0_1.length c0_1],.int .i64 a2] rfl oF ?_;(with_reducible refine (q29.calls k _ _ l0_0 _ _ l0_1 a2 t102 _ ?side1 ?side2 ?side3 ?side4 A5.out).mono ?_);(case side1=>exact cq (Kd.C_below HR0_0.out HB.out));(case side2=>exact HC0_0.out);(case side3=>exact cq (Kd.C_below HR0_1.out HB.out));(case side4=>exact HC0_1.out);rintro e w8 ⟨v103,rfl,ho0,hb⟩;refine ⟨_,rfl,?_⟩;have n0_:=zk (Kd.R_lower ho0 (below_size (bg HB.out GE101 GE101)));have n1_:=zk (blk_below (g:=gb101) (o:=.cells #[.slice A0_0 l0_0.length c0_0,.slice A0_1 l0_1.length c0_1] 24 (0,0)) (hq BK101.out) hb);have n2_:=zk (below_step (bg HB.out GE101 GE101) hb);clear BK101;clear HB;have HO104:=n0_;have BK101:=n1_;have HB:=n2_;clear n0_ n1_ n2_;(try clear hb);(try clear hb2);(try clear hk);(try clear hi);(try clear ho0);obtain ⟨Ao9,co9,eo9⟩:=Kd.R_slice HO104.out;subst eo9))
 go_loopg [10,18] k (fun kq v10 v18 w'=>∃ (x10_1:Int) (x18_1:Int),v10 = .int .i64 x10_1 ∧ v18 = .int .i64 x18_1 ∧ Aside0 (q28.l0 kq a1 a3 t102 x10_1 t102 (t102.length:Int) x18_1 = some r) ∧ Aside0 (kq ≤ k) ∧ Aside0 (Kd.R (Kd.int .i64) 3 w' w.heap.size (fun _=>True) (.slice Ao9 t102.length co9) t102) ∧ Aside0 (Kd.R (Kd.int .i64) 3 w' w.heap.size (fun _=>True) (.slice Ao9 t102.length co9) t102) ∧ Aside0 (w'.heap[gb101]? = some (.cells #[(.slice A0_0 l0_0.length c0_0),(.slice A0_1 l0_1.length c0_1)] 24 (0,0))) ∧ Aside0 (Below w.heap.size w w'))
 case atStart=>exact ⟨(0),(0),oE,oE,H',⟨Nat.le_refl _⟩,⟨rq HO104.out⟩,⟨rq HO104.out⟩,⟨hq BK101.out⟩,⟨bg HB.out GE101 GE101⟩⟩
 case round =>
  clear H'
  try clear c2
  try clear p2
  try clear c4
  try clear hcz7_0
  try clear hcz7_1
  try clear hfz7_0
  try clear hfz7_1
  obtain ⟨x10_1,x18_1,rfl,rfl,HA,HK1,HO_9,HO_16,BK101,HB⟩:=hrel
  cases gk with
  | zero=>exact absurd HA.out (by simp [q28.l0])
  | succ k1 =>
   have H:=HA.out
   clear HA
   simp only [q28.l0] at H
   by_cases c10:x18_1 < (t102.length:Int)
   ·rw [if_pos c10] at H
    have c10b0:decide (x18_1 < (t102.length:Int)) = true:=decide_eq_true c10
    clear c10
    by_cases c11:0 ≤ x18_1
    ·rw [if_pos c11] at H
     have c11b0:decide (0 ≤ x18_1) = true:=decide_eq_true c11
     clear c11
     by_cases c12:x18_1 < (t102.length:Int)
     ·rw [if_pos c12] at H
      have c12b0:decide (x18_1 < (t102.length:Int)) = true:=decide_eq_true c12
      clear c12
      by_cases c13:0 ≤ (rd t102 x18_1)
      ·rw [if_pos c13] at H
       have c13b0:=eq_true c13
       have c13b1:decide (0 ≤ (rd t102 x18_1)) = true:=decide_eq_true c13
       clear c13
       obtain ⟨ji14,hji14⟩:∃ j_:Int,(shr .u32 a1 (rd t102 x18_1)) = j_:=⟨_,rfl⟩
       replace H:(if (Go.bits .and .u32 (ji14) 1) = 1 then (q28.l0 k1 a1 a3 t102 (wrap64 (x10_1 + 1)) t102 (t102.length:Int) (wrap64 (x18_1 + 1))) else (q28.l0 k1 a1 a3 t102 x10_1 t102 (t102.length:Int) (wrap64 (x18_1 + 1)))) = some r:=by first|(rw [hji14] at H;exact H)|(simp only [hji14] at H ⊢;exact H)
       have hji14_:(a1 / 2 ^ min (rd t102 x18_1).toNat 32) = ji14:=hji14
       have hji14z:(rd t102 x18_1) ≤ 32 → (a1 / 2 ^ (rd t102 x18_1).toNat) = ji14:=shr_small hji14
       by_cases c15:(Go.bits .and .u32 (ji14) 1) = 1
       ·rw [if_pos c15] at H
        have c15b0:((Go.bits .and .u32 (ji14) 1) == 1) = true:=beq_iff_eq.mpr c15
        have c15b1:((Go.bits .and .u32 (ji14) 1) != 1) = false:=bne_eq_false_iff_eq.mpr c15
        clear c15
        have H':=Aside0.mk H
        clear H
        have p105:0 ≤ (x18_1:Int):=oA
        have q105:x18_1 < (t102.length:Int):=oA
        obtain ⟨ad105,e105,hx105_0⟩:=Kd.at_int (Kd.R_reads' HO_16.out).2.2 x18_1 p105 q105
        cases e105
        replace p105:=eq_true p105
        replace q105:=eq_true q105
        go_wp2
        go_roundg k1
        case measure=>have:=HK1.out;omega
        case rel=>exact ⟨(wrap64 (x10_1 + 1)),(wrap64 (x18_1 + 1)),oE,oE,(by first|exact H'|exact ⟨by simp only [hji14];exact H'.out⟩),⟨by have:=HK1.out;omega⟩,⟨rq HO_9.out⟩,⟨rq HO_16.out⟩,⟨hq BK101.out⟩,⟨bg HB.out GE101 GE101⟩⟩
       ·rw [if_neg c15] at H
        have c15b0:((Go.bits .and .u32 (ji14) 1) == 1) = false:=beq_eq_false_iff_ne.mpr c15
        have c15b1:((Go.bits .and .u32 (ji14) 1) != 1) = true:=bne_iff_ne.mpr c15
        have H':=Aside0.mk H
        clear H
        have p105:0 ≤ (x18_1:Int):=oA
        have q105:x18_1 < (t102.length:Int):=oA
        obtain ⟨ad105,e105,hx105_0⟩:=Kd.at_int (Kd.R_reads' HO_16.out).2.2 x18_1 p105 q105
        cases e105
        replace p105:=eq_true p105
        replace q105:=eq_true q105
        go_wp2
        go_roundg k1
        case measure=>have:=HK1.out;omega
        case rel=>exact ⟨(x10_1),(wrap64 (x18_1 + 1)),oE,oE,(by first|exact H'|exact ⟨by simp only [hji14];exact H'.out⟩),⟨by have:=HK1.out;omega⟩,⟨rq HO_9.out⟩,⟨rq HO_16.out⟩,⟨hq BK101.out⟩,⟨bg HB.out GE101 GE101⟩⟩
      ·rw [if_neg c13] at H
       exact absurd H (by simp)
     ·rw [if_neg c12] at H
      exact absurd H (by simp)
    ·rw [if_neg c11] at H
     exact absurd H (by simp)
   ·rw [if_neg c10] at H
    have c10b0:decide (x18_1 < (t102.length:Int)) = false:=decide_eq_false c10
    clear c10
    by_cases c16:a3 = true
    ·subst c16
     have H1:(some (x10_1 == (mn 1 (t102.length:Int)))) = some r:=by rw [if_pos rfl] at H;exact H
     clear H
     have H:=H1
     clear H1
     obtain ⟨ji17,hji17⟩:∃ j_:Int,(mn 1 (t102.length:Int)) = j_:=⟨_,rfl⟩
     replace H:(some (x10_1 == (ji17))) = some r:=by first|(rw [hji17] at H;exact H)|(simp only [hji17] at H ⊢;exact H)
     have hji17_:(if (t102.length:Int) < 1 then (t102.length:Int) else 1) = ji17:=hji17
     obtain rfl:=Option.some.inj H
     go_wp2
     go_ret
     exact ⟨by first|rfl|(simp [errW_none,errW_some] <;> rfl)|(simp only [← hji17];first|rfl|(simp [errW_none,errW_some] <;> rfl))|(simp [*,errW_none,errW_some] <;> rfl),bg HB.out GE101 GE101⟩
    ·replace c16:=Bool.eq_false_iff.mpr c16
     subst c16
     have H1:(some (x10_1 == (t102.length:Int))) = some r:=by rw [if_neg (show ¬ (false = true) by decide)] at H;exact H
     clear H
     have H:=H1
     clear H1
     obtain rfl:=Option.some.inj H
     go_wp2
     go_ret
     exact ⟨by first|rfl|(simp [errW_none,errW_some] <;> rfl)|(simp [*,errW_none,errW_some] <;> rfl),bg HB.out GE101 GE101⟩
def q21.f (a0:Int):Option (Bool):=if a0 = 1 then (some true) else (some (a0 == 2))
set_option maxHeartbeats 8000000 in
set_option maxRecDepth 100000 in
theorem q21.calls (a0:Int) (r:Bool) (w:World) (h:q21.f a0 = some r) :
  Calls Try.prog 45 #[.int .i64 a0] w fun e w'=>e = .returned (.bool r) ∧ Drawn0 w w':=by
 have H:(if a0 = 1 then (some true) else (some (a0 == 2))) = some r:=h
 clear h
 by_cases c2:a0 = 1
 ·rw [if_pos c2] at H
  have c2b0:(a0 == 1) = true:=beq_iff_eq.mpr c2
  have c2b1:(a0 != 1) = false:=bne_eq_false_iff_eq.mpr c2
  clear c2
  obtain rfl:=Option.some.inj H
  go_enter Try.func45,Try.ntmps45
  go_wp2
  go_ret
  exact ⟨by first|rfl|(simp;done)|(simp [*];done),by repeat (first|exact Drawn0.refl _|apply Drawn0.step)⟩
 ·rw [if_neg c2] at H
  have c2b0:(a0 == 1) = false:=beq_eq_false_iff_ne.mpr c2
  have c2b1:(a0 != 1) = true:=bne_iff_ne.mpr c2
  obtain rfl:=Option.some.inj H
  go_enter Try.func45,Try.ntmps45
  go_wp2
  go_ret
  exact ⟨by first|rfl|(simp;done)|(simp [*];done),by repeat (first|exact Drawn0.refl _|apply Drawn0.step)⟩
mutual
def q20.j0:Nat → Int → Bool → List Int → List Int → Option (Bool)
 | 0,_,_,_,_=>none
 | k + 1,x1,x19,x102000,x102001=>if x19 = true then (some false) else (q20.l0 k x1 x102000 (x102000.length:Int) 0 x102000 x102001)
def q20.l0:Nat → Int → List Int → Int → Int → List Int → List Int → Option (Bool)
 | 0,_,_,_,_,_,_=>none
 | k + 1,x1,x21,x22,x23,x102000,x102001=>if x23 < x22 then (if 0 ≤ x23 then (if x23 < (x21.length:Int) then (if (Go.bits .and .u32 (shr .u32 x1 x23) 1) = 1 then ((q21.f (rd x21 x23)).bind fun t105=>(if t105 = true then (if x23 < (x102001.length:Int) then (if (rd x102001 x23) = (-1) then ((q28.f k x102000 x102001 x1 x23 ((rd x21 x23) == 1)).bind fun t107=>(if t107 = true then (q20.l0 k x1 x21 x22 (wrap64 (x23 + 1)) x102000 x102001) else (some false))) else (if 0 ≤ (rd x102001 x23) then (if (Go.bits .and .u32 (shr .u32 x1 (rd x102001 x23)) 1) = 0 then (some false) else ((q28.f k x102000 x102001 x1 x23 ((rd x21 x23) == 1)).bind fun t109=>(if t109 = true then (q20.l0 k x1 x21 x22 (wrap64 (x23 + 1)) x102000 x102001) else (some false)))) else (none))) else (none)) else (some false))) else (q20.l0 k x1 x21 x22 (wrap64 (x23 + 1)) x102000 x102001)) else (none)) else (none)) else (some true)
end
def q20.f (k:Nat) (l0_0:List Int) (l0_1:List Int) (a1:Int):Option (Bool):=(q30.f a1).bind fun t102=>(if t102 > (l0_0.length:Int) then (q20.j0 k a1 true l0_0 l0_1) else ((q28.f k l0_0 l0_1 a1 (-1) true).bind fun t103=>(q20.j0 k a1 (!t103) l0_0 l0_1)))
def q20.T1:Bool × List (List Nat × List Nat):=(true,[([],[]),([0],[0]),([],[]),([2],[2]),([3],[3]),([1,4],[1,4]),([5,1],[5]),([6],[6]),([6],[6]),([7,8,6,6],[6,7,8]),([9,6],[6,9]),([6,10],[6,10])])
def q20.B1:List Nat:=[0,1,0,4,12,31,63,127,127,511,1023,2047]
theorem shape_Proper.tab1:rtab .any (opsOf Try.f15 1) = q20.T1:=by kernel_rfl
theorem shape_Proper.bits1:waitsOk q20.T1.2 q20.B1 = true:=by kernel_rfl
set_option maxHeartbeats 8000000 in
set_option maxRecDepth 100000 in
theorem q20.calls (k:Nat) (A0_0:Option Addr) (c0_0:Nat) (l0_0:List Int) (A0_1:Option Addr) (c0_1:Nat) (l0_1:List Int) (a1:Int) (r:Bool) (w:World) (hr0_0:Kd.C (Kd.int .i64) w A0_0 l0_0.length l0_0) (hc0_0:l0_0.length ≤ c0_0) (hr0_1:Kd.C (Kd.int .i64) w A0_1 l0_1.length l0_1) (hc0_1:l0_1.length ≤ c0_1) (h:q20.f k l0_0 l0_1 a1 = some r) :
  Calls Try.prog 15 #[.agg #[.slice A0_0 l0_0.length c0_0,.slice A0_1 l0_1.length c0_1],.int .u32 a1] w fun e w'=>e = .returned (.bool r) ∧ Below w.heap.size w w':=by
 have hu24:=Try.underlying24
 have HR0_0:=Aside0.mk hr0_0
 have HC0_0:=Aside0.mk hc0_0
 clear hr0_0 hc0_0
 have HR0_1:=Aside0.mk hr0_1
 have HC0_1:=Aside0.mk hc0_1
 clear hr0_1 hc0_1
 have HB:=zk (Below.refl w.heap.size w)
 have H:((q30.f a1).bind fun t102=>(if t102 > (l0_0.length:Int) then (q20.j0 k a1 true l0_0 l0_1) else ((q28.f k l0_0 l0_1 a1 (-1) true).bind fun t103=>(q20.j0 k a1 (!t103) l0_0 l0_1)))) = some r:=h
 clear h
 have HC3:=Aside0.mk H
 clear H
 go_enter Try.func15,Try.ntmps15
 go_upto_region 1 with (first|((with_reducible refine gate_dst (N:=2) rfl ?_);refine box_event ?hg (N:=2) ?hd (cs:=#[.slice A0_0 l0_0.length c0_0,.slice A0_1 l0_1.length c0_1]) (t:=24) ?hr ?_;(case hd=>rfl);(case hg=>rfl);(case hr=>first|(go_simp;done)|(go_simp;rfl));intro gb101 hg w4 hbox hb;have n0_:=zk (below_step (bq HB.out) hb);have n1_:=zk (hbox);have n2_:=zk ((by rw [hg];exact (below_size (bq HB.out)):w.heap.size ≤ gb101));have n3_:=zk ((by rw [hg];exact (below_size (bq HB.out)):w.heap.size ≤ gb101));clear HB;have HB:=n0_;have BK101:=n1_;have GW101:=n2_;have GE101:=n3_;clear n0_ n1_ n2_ n3_;clear hb hbox hg))
 (try simp only [Act.put,List.setIfInBounds_toArray,List.set_cons_zero,List.set_cons_succ])
 go_cut [19] (fun v19 wc=>∃ (kq:Nat) (x19_2:Bool),v19 = .bool x19_2 ∧ Aside0 (q20.j0 kq a1 x19_2 l0_0 l0_1 = some r) ∧ Aside0 (kq ≤ k) ∧ Aside0 (wc.heap[gb101]? = some (.cells #[(.slice A0_0 l0_0.length c0_0),(.slice A0_1 l0_1.length c0_1)] 24 (0,0))) ∧ Aside0 (Below w.heap.size w wc))
 case first =>
  have H:=HC3.out
  clear HC3
  replace H:=Option.bind_eq_some_iff.mp H
  obtain ⟨t102,A50,H⟩:=H
  replace H:(if t102 > (l0_0.length:Int) then (q20.j0 k a1 true l0_0 l0_1) else ((q28.f k l0_0 l0_1 a1 (-1) true).bind fun t103=>(q20.j0 k a1 (!t103) l0_0 l0_1))) = some r:=H
  have A5:=Aside0.mk A50
  clear A50
  by_cases c6:t102 > (l0_0.length:Int)
  ·rw [if_pos c6] at H
   have c6b0:decide ((l0_0.length:Int) < t102) = true:=decide_eq_true c6
   clear c6
   (first|rw [c6b0]|(simp only [i64_w,i32_w];rw [c6b0])|skip)
   have H':=Aside0.mk H
   clear H
   try go_wp2
   have n0_:=zk (blk_drew BK101.out)
   have n1_:=zk (below_drew1 HB.out)
   clear BK101
   clear HB
   have BK101:=n0_
   have HB:=n1_
   clear n0_ n1_
   refine start_ (n:=12) (S:=fun w'=>w'.cell? ⟨gb101,0,none⟩ = some (.slice A0_0 l0_0.length c0_0) ∧ w'.cell? ⟨gb101,1,none⟩ = some (.slice A0_1 l0_1.length c0_1)) (ds:=[]) #[false,false,false,false,false,false,false,false,false,false,false,false] (by kernel_rfl) rfl rfl ⟨(blk_cell BK101.out 0).trans rfl,(blk_cell BK101.out 1).trans rfl⟩ (fun hHeld=>?_);refine with_tabW shape_Proper.tab1 shape_Proper.bits1 (fun HT_ HW_=>?_)
   generalize w4.drew = w7 at BK101 HB hHeld ⊢
   refine pure_ (i:=0) (N:=some 8) (v:=?_) (a':=?_) #[true,false,false,false,false,false,false,false,false,false,false,false] rfl rfl (any_of HT_.out (by kernel_rfl)) (fun _ _ _ h=>h) (Or.inl ⟨by rfl,?_⟩) ?_ ?_
   rotate_left
   ·intro w'
    go_simp
    with_reducible rfl
   rotate_left
   ·simp only [Act.put,List.setIfInBounds_toArray,List.set_cons_zero,List.set_cons_succ,i64_w,i32_w]
    rfl
   refine pure_ (i:=2) (N:=some 10) (v:=?_) (a':=?_) #[true,false,true,false,false,false,false,false,false,false,false,false] rfl rfl (any_of HT_.out (by kernel_rfl)) (fun _ _ _ h=>h) (Or.inl ⟨by rfl,?_⟩) ?_ ?_
   rotate_left
   ·intro w'
    go_simp
    with_reducible rfl
   rotate_left
   ·simp only [Act.put,List.setIfInBounds_toArray,List.set_cons_zero,List.set_cons_succ,i64_w,i32_w]
    rfl
   refine take_ (i:=3) (N:=some 11) (v:=?_) (a':=?_) #[true,false,true,true,false,false,false,false,false,false,false,false] rfl rfl (take_ofW HT_.out HW_.out (by kernel_rfl)) (fun _ _ _ h=>h) (Or.inl ⟨by rfl,?_⟩) hHeld ?_ ?_
   rotate_left
   ·rintro w' ⟨s0,s1⟩
    go_simp
    with_reducible rfl
   rotate_left
   ·simp only [Act.put,List.setIfInBounds_toArray,List.set_cons_zero,List.set_cons_succ,i64_w,i32_w]
    rfl
   refine pure_ (i:=4) (N:=some 12) (v:=?_) (a':=?_) #[true,false,true,true,true,false,false,false,false,false,false,false] rfl rfl (any_of HT_.out (by kernel_rfl)) (fun _ _ _ h=>h) (Or.inl ⟨by rfl,?_⟩) ?_ ?_
   rotate_left
   ·intro w'
    go_simp
    with_reducible rfl
   rotate_left
   ·simp only [Act.put,List.setIfInBounds_toArray,List.set_cons_zero,List.set_cons_succ,i64_w,i32_w]
    rfl
   refine one_ (i:=1) (N:=some 9) #[true,true,true,true,true,false,false,false,false,false,false,false] rfl rfl (one_of HT_.out (by kernel_rfl)) (by decide) (fun K hK=>?_)
   refine goes_ Try.func43 (by kernel_rfl) rfl #[.int .u32 a1] (by rfl) rfl rfl oF ?_
   with_reducible refine (q30.calls a1 t102 _ A5.out).mono ?_
   rintro e w' ⟨rfl,⟨nd,rfl⟩⟩
   refine ⟨_,rfl,?_⟩
   refine hK.out _ _ ⟨(blk_cell BK101.out 0).trans rfl,(blk_cell BK101.out 1).trans rfl⟩ (fun hHeld=>?_)
   clear hK K
   refine norm_ (a':=?_) ?_ ?_
   rotate_left
   ·show Act.put _ (some 9) _ = _
    simp only [Act.put,List.setIfInBounds_toArray,List.set_cons_zero,List.set_cons_succ,i64_w,i32_w]
    rfl
   refine pure_ (i:=5) (N:=some 13) (v:=?_) (a':=?_) #[true,true,true,true,true,true,false,false,false,false,false,false] rfl rfl (any_of HT_.out (by kernel_rfl)) (fun _ _ _ h=>h) (Or.inl ⟨by rfl,?_⟩) ?_ ?_
   rotate_left
   ·intro w'
    go_simp
    with_reducible rfl
   rotate_left
   ·simp only [Act.put,List.setIfInBounds_toArray,List.set_cons_zero,List.set_cons_succ,i64_w,i32_w]
    rfl
   refine pure_ (i:=6) (N:=some 14) (v:=?_) (a':=?_) #[true,true,true,true,true,true,true,false,false,false,false,false] rfl rfl (any_of HT_.out (by kernel_rfl)) (fun _ _ _ h=>h) (Or.inl ⟨by rfl,?_⟩) ?_ ?_
   rotate_left
   ·intro w'
    go_simp
    with_reducible rfl
   rotate_left
   ·simp only [Act.put,List.setIfInBounds_toArray,List.set_cons_zero,List.set_cons_succ,i64_w,i32_w]
    rfl
   refine pure_ (i:=7) (N:=some 15) (v:=undef) (a':=?_) #[true,true,true,true,true,true,true,true,false,false,false,false] rfl rfl (any_of HT_.out (by kernel_rfl)) (fun _ _ _ h=>h) (Or.inr ⟨by rfl,rfl⟩) ?_ ?_
   rotate_left
   ·simp only [Act.put,List.setIfInBounds_toArray,List.set_cons_zero,List.set_cons_succ,i64_w,i32_w]
    rfl
   refine pure_ (i:=8) (N:=some 16) (v:=undef) (a':=?_) #[true,true,true,true,true,true,true,true,true,false,false,false] rfl rfl (any_of HT_.out (by kernel_rfl)) (fun _ _ _ h=>h) (Or.inr ⟨by rfl,rfl⟩) ?_ ?_
   rotate_left
   ·simp only [Act.put,List.setIfInBounds_toArray,List.set_cons_zero,List.set_cons_succ,i64_w,i32_w]
    rfl
   refine pure_ (i:=9) (N:=some 17) (v:=undef) (a':=?_) #[true,true,true,true,true,true,true,true,true,true,false,false] rfl rfl (any_of HT_.out (by kernel_rfl)) (fun _ _ _ h=>h) (Or.inr ⟨by rfl,rfl⟩) ?_ ?_
   rotate_left
   ·simp only [Act.put,List.setIfInBounds_toArray,List.set_cons_zero,List.set_cons_succ,i64_w,i32_w]
    rfl
   refine pure_ (i:=10) (N:=some 18) (v:=undef) (a':=?_) #[true,true,true,true,true,true,true,true,true,true,true,false] rfl rfl (any_of HT_.out (by kernel_rfl)) (fun _ _ _ h=>h) (Or.inr ⟨by rfl,rfl⟩) ?_ ?_
   rotate_left
   ·simp only [Act.put,List.setIfInBounds_toArray,List.set_cons_zero,List.set_cons_succ,i64_w,i32_w]
    rfl
   refine pure_ (i:=11) (N:=some 19) (v:=?_) (a':=?_) #[true,true,true,true,true,true,true,true,true,true,true,true] rfl rfl (any_of HT_.out (by kernel_rfl)) (fun _ _ _ h=>h) (Or.inl ⟨by rfl,?_⟩) ?_ ?_
   rotate_left
   ·intro w'
    go_simp
    with_reducible rfl
   rotate_left
   ·simp only [Act.put,List.setIfInBounds_toArray,List.set_cons_zero,List.set_cons_succ,i64_w,i32_w]
    rfl
   refine done_ (done_of HT_.out (by kernel_rfl)) ?_
   try go_wp2
   go_meet
   case rel=>exact ⟨_,(true),oE,H',⟨by first|omega|exact Nat.le_refl _⟩,⟨hq BK101.out⟩,⟨bg HB.out GE101 GE101⟩⟩
  ·rw [if_neg c6] at H
   have c6b0:decide ((l0_0.length:Int) < t102) = false:=decide_eq_false c6
   clear c6
   (first|rw [c6b0]|(simp only [i64_w,i32_w];rw [c6b0])|skip)
   replace H:=Option.bind_eq_some_iff.mp H
   obtain ⟨t103,A80,H⟩:=H
   replace H:(q20.j0 k a1 (!t103) l0_0 l0_1) = some r:=H
   have A8:=Aside0.mk A80
   clear A80
   have H':=Aside0.mk H
   clear H
   try go_wp2
   have n0_:=zk (blk_drew BK101.out)
   have n1_:=zk (below_drew1 HB.out)
   clear BK101
   clear HB
   have BK101:=n0_
   have HB:=n1_
   clear n0_ n1_
   refine start_ (n:=12) (S:=fun w'=>w'.cell? ⟨gb101,0,none⟩ = some (.slice A0_0 l0_0.length c0_0) ∧ w'.cell? ⟨gb101,1,none⟩ = some (.slice A0_1 l0_1.length c0_1)) (ds:=[]) #[false,false,false,false,false,false,false,false,false,false,false,false] (by kernel_rfl) rfl rfl ⟨(blk_cell BK101.out 0).trans rfl,(blk_cell BK101.out 1).trans rfl⟩ (fun hHeld=>?_);refine with_tabW shape_Proper.tab1 shape_Proper.bits1 (fun HT_ HW_=>?_)
   generalize w4.drew = w9 at BK101 HB hHeld ⊢
   refine pure_ (i:=0) (N:=some 8) (v:=?_) (a':=?_) #[true,false,false,false,false,false,false,false,false,false,false,false] rfl rfl (any_of HT_.out (by kernel_rfl)) (fun _ _ _ h=>h) (Or.inl ⟨by rfl,?_⟩) ?_ ?_
   rotate_left
   ·intro w'
    go_simp
    with_reducible rfl
   rotate_left
   ·simp only [Act.put,List.setIfInBounds_toArray,List.set_cons_zero,List.set_cons_succ,i64_w,i32_w]
    rfl
   refine pure_ (i:=2) (N:=some 10) (v:=?_) (a':=?_) #[true,false,true,false,false,false,false,false,false,false,false,false] rfl rfl (any_of HT_.out (by kernel_rfl)) (fun _ _ _ h=>h) (Or.inl ⟨by rfl,?_⟩) ?_ ?_
   rotate_left
   ·intro w'
    go_simp
    with_reducible rfl
   rotate_left
   ·simp only [Act.put,List.setIfInBounds_toArray,List.set_cons_zero,List.set_cons_succ,i64_w,i32_w]
    rfl
   refine take_ (i:=3) (N:=some 11) (v:=?_) (a':=?_) #[true,false,true,true,false,false,false,false,false,false,false,false] rfl rfl (take_ofW HT_.out HW_.out (by kernel_rfl)) (fun _ _ _ h=>h) (Or.inl ⟨by rfl,?_⟩) hHeld ?_ ?_
   rotate_left
   ·rintro w' ⟨s0,s1⟩
    go_simp
    with_reducible rfl
   rotate_left
   ·simp only [Act.put,List.setIfInBounds_toArray,List.set_cons_zero,List.set_cons_succ,i64_w,i32_w]
    rfl
   refine pure_ (i:=4) (N:=some 12) (v:=?_) (a':=?_) #[true,false,true,true,true,false,false,false,false,false,false,false] rfl rfl (any_of HT_.out (by kernel_rfl)) (fun _ _ _ h=>h) (Or.inl ⟨by rfl,?_⟩) ?_ ?_
   rotate_left
   ·intro w'
    go_simp
    with_reducible rfl
   rotate_left
   ·simp only [Act.put,List.setIfInBounds_toArray,List.set_cons_zero,List.set_cons_succ,i64_w,i32_w]
    rfl
   refine one_ (i:=1) (N:=some 9) #[true,true,true,true,true,false,false,false,false,false,false,false] rfl rfl (one_of HT_.out (by kernel_rfl)) (by decide) (fun K hK=>?_)
   refine goes_ Try.func43 (by kernel_rfl) rfl #[.int .u32 a1] (by rfl) rfl rfl oF ?_
   with_reducible refine (q30.calls a1 t102 _ A5.out).mono ?_
   rintro e w' ⟨rfl,⟨nd,rfl⟩⟩
   refine ⟨_,rfl,?_⟩
   refine hK.out _ _ ⟨(blk_cell BK101.out 0).trans rfl,(blk_cell BK101.out 1).trans rfl⟩ (fun hHeld=>?_)
   clear hK K
   refine norm_ (a':=?_) ?_ ?_
   rotate_left
   ·show Act.put _ (some 9) _ = _
    simp only [Act.put,List.setIfInBounds_toArray,List.set_cons_zero,List.set_cons_succ,i64_w,i32_w]
    rfl
   refine pure_ (i:=5) (N:=some 13) (v:=?_) (a':=?_) #[true,true,true,true,true,true,false,false,false,false,false,false] rfl rfl (any_of HT_.out (by kernel_rfl)) (fun _ _ _ h=>h) (Or.inl ⟨by rfl,?_⟩) ?_ ?_
   rotate_left
   ·intro w'
    go_simp
    with_reducible rfl
   rotate_left
   ·simp only [Act.put,List.setIfInBounds_toArray,List.set_cons_zero,List.set_cons_succ,i64_w,i32_w]
    rfl
   refine pure_ (i:=6) (N:=some 14) (v:=?_) (a':=?_) #[true,true,true,true,true,true,true,false,false,false,false,false] rfl rfl (any_of HT_.out (by kernel_rfl)) (fun _ _ _ h=>h) (Or.inl ⟨by rfl,?_⟩) ?_ ?_
   rotate_left
   ·intro w'
    go_simp
    with_reducible rfl
   rotate_left
   ·simp only [Act.put,List.setIfInBounds_toArray,List.set_cons_zero,List.set_cons_succ,i64_w,i32_w]
    rfl
   refine pure_ (i:=8) (N:=some 16) (v:=?_) (a':=?_) #[true,true,true,true,true,true,true,false,true,false,false,false] rfl rfl (any_of HT_.out (by kernel_rfl)) (fun _ _ _ h=>h) (Or.inl ⟨by rfl,?_⟩) ?_ ?_
   rotate_left
   ·intro w'
    go_simp
    with_reducible rfl
   rotate_left
   ·simp only [Act.put,List.setIfInBounds_toArray,List.set_cons_zero,List.set_cons_succ,i64_w,i32_w]
    rfl
   refine take_ (i:=7) (N:=some 15) (v:=?_) (a':=?_) #[true,true,true,true,true,true,true,true,true,false,false,false] rfl rfl (take_ofW HT_.out HW_.out (by kernel_rfl)) (fun _ _ _ h=>h) (Or.inl ⟨by rfl,?_⟩) hHeld ?_ ?_
   rotate_left
   ·rintro w' ⟨s0,s1⟩
    go_simp
    with_reducible rfl
   rotate_left
   ·simp only [Act.put,List.setIfInBounds_toArray,List.set_cons_zero,List.set_cons_succ,i64_w,i32_w]
    rfl
   refine one_ (i:=9) (N:=some 17) #[true,true,true,true,true,true,true,true,true,true,false,false] rfl rfl (one_of HT_.out (by kernel_rfl)) (by decide) (fun K hK=>?_)
   refine goes_ Try.func44 (by kernel_rfl) rfl #[.agg #[.slice A0_0 l0_0.length c0_0,.slice A0_1 l0_1.length c0_1],.int .u32 a1,.int .i64 (-1),.bool true] (by rfl) rfl rfl oF ?_
   with_reducible refine (q28.calls k _ _ l0_0 _ _ l0_1 a1 (-1) true t103 _ ?side1 ?side2 ?side3 ?side4 A8.out).mono ?_
   (case side1=>exact (Kd.C_below HR0_0.out (bg HB.out GE101 GE101)))
   (case side2=>exact HC0_0.out)
   (case side3=>exact (Kd.C_below HR0_1.out (bg HB.out GE101 GE101)))
   (case side4=>exact HC0_1.out)
   rintro e w10 ⟨rfl,hb⟩
   refine ⟨_,rfl,?_⟩
   have n0_:=zk (blk_below (g:=gb101) (o:=.cells #[.slice A0_0 l0_0.length c0_0,.slice A0_1 l0_1.length c0_1] 24 (0,0)) (hq BK101.out) hb)
   have n1_:=zk (below_step (bg HB.out GE101 GE101) hb)
   clear BK101
   clear HB
   have BK101:=n0_
   have HB:=n1_
   clear n0_ n1_
   (try clear hb)
   (try clear hb2)
   (try clear hk)
   (try clear hi)
   refine hK.out _ _ ⟨(blk_cell BK101.out 0).trans rfl,(blk_cell BK101.out 1).trans rfl⟩ (fun hHeld=>?_)
   clear hK K
   refine norm_ (a':=?_) ?_ ?_
   rotate_left
   ·show Act.put _ (some 17) _ = _
    simp only [Act.put,List.setIfInBounds_toArray,List.set_cons_zero,List.set_cons_succ,i64_w,i32_w]
    rfl
   refine pure_ (i:=10) (N:=some 18) (v:=?_) (a':=?_) #[true,true,true,true,true,true,true,true,true,true,true,false] rfl rfl (any_of HT_.out (by kernel_rfl)) (fun _ _ _ h=>h) (Or.inl ⟨by rfl,?_⟩) ?_ ?_
   rotate_left
   ·intro w'
    go_simp
    with_reducible rfl
   rotate_left
   ·simp only [Act.put,List.setIfInBounds_toArray,List.set_cons_zero,List.set_cons_succ,i64_w,i32_w]
    rfl
   refine pure_ (i:=11) (N:=some 19) (v:=?_) (a':=?_) #[true,true,true,true,true,true,true,true,true,true,true,true] rfl rfl (any_of HT_.out (by kernel_rfl)) (fun _ _ _ h=>h) (Or.inl ⟨by rfl,?_⟩) ?_ ?_
   rotate_left
   ·intro w'
    go_simp
    with_reducible rfl
   rotate_left
   ·simp only [Act.put,List.setIfInBounds_toArray,List.set_cons_zero,List.set_cons_succ,i64_w,i32_w]
    rfl
   refine done_ (done_of HT_.out (by kernel_rfl)) ?_
   try go_wp2
   go_meet
   case rel=>exact ⟨_,(!t103),oE,H',⟨by first|omega|exact Nat.le_refl _⟩,⟨hq BK101.out⟩,⟨bg HB.out GE101 GE101⟩⟩
 case rest =>
  clear HC3
  try clear c1
  try clear p2
  try clear c4
  try clear c6
  try clear c6b0
  obtain ⟨kq,x19_2,rfl,HA,HJ2,BK101,HB⟩:=hcut
  cases kq with
  | zero=>exact absurd HA.out (by simp [q20.j0])
  | succ kj2 =>
   have H:=HA.out
   clear HA
   simp only [q20.j0] at H
   by_cases c11:x19_2 = true
   ·subst c11
    have H1:(some false) = some r:=by rw [if_pos rfl] at H;exact H
    clear H
    have H:=H1
    clear H1
    obtain rfl:=Option.some.inj H
    go_wp2
    go_ret
    exact ⟨by first|rfl|(simp [errW_none,errW_some] <;> rfl)|(simp [*,errW_none,errW_some] <;> rfl),bg HB.out GE101 GE101⟩
   ·replace c11:=Bool.eq_false_iff.mpr c11
    subst c11
    have H1:(q20.l0 kj2 a1 l0_0 (l0_0.length:Int) 0 l0_0 l0_1) = some r:=by rw [if_neg (show ¬ (false = true) by decide)] at H;exact H
    clear H
    have H:=H1
    clear H1
    have H':=Aside0.mk H
    clear H
    have hcz12_0:wc.cell? ⟨gb101,0,none⟩ = some (.slice A0_0 l0_0.length c0_0):=(blk_cell BK101.out 0).trans rfl
    have hcz12_1:wc.cell? ⟨gb101,1,none⟩ = some (.slice A0_1 l0_1.length c0_1):=(blk_cell BK101.out 1).trans rfl
    have hfz12_0:=blk_frozen BK101.out 0
    have hfz12_1:=blk_frozen BK101.out 1
    go_wp2
    go_loopg [23] kj2 (fun kq v23 w'=>∃ (x23_2:Int),v23 = .int .i64 x23_2 ∧ Aside0 (q20.l0 kq a1 l0_0 (l0_0.length:Int) x23_2 l0_0 l0_1 = some r) ∧ Aside0 (kq ≤ kj2) ∧ Aside0 (w'.heap[gb101]? = some (.cells #[(.slice A0_0 l0_0.length c0_0),(.slice A0_1 l0_1.length c0_1)] 24 (0,0))) ∧ Aside0 (Below w.heap.size w w'))
    case atStart=>exact ⟨(0),oE,H',⟨Nat.le_refl _⟩,⟨hq BK101.out⟩,⟨bg HB.out GE101 GE101⟩⟩
    case round =>
     clear H'
     try clear c1
     try clear p2
     try clear c4
     try clear c6
     try clear c6b0
     try clear c11
     try clear hcz12_0
     try clear hcz12_1
     try clear hfz12_0
     try clear hfz12_1
     try clear p2
     obtain ⟨x23_2,rfl,HA,HK2,BK101,HB⟩:=hrel
     cases gk with
     | zero=>exact absurd HA.out (by simp [q20.l0])
     | succ k2 =>
      have H:=HA.out
      clear HA
      simp only [q20.l0] at H
      by_cases c13:x23_2 < (l0_0.length:Int)
      ·rw [if_pos c13] at H
       have c13b0:decide (x23_2 < (l0_0.length:Int)) = true:=decide_eq_true c13
       clear c13
       by_cases c14:0 ≤ x23_2
       ·rw [if_pos c14] at H
        have c14b0:decide (0 ≤ x23_2) = true:=decide_eq_true c14
        clear c14
        by_cases c15:x23_2 < (l0_0.length:Int)
        ·rw [if_pos c15] at H
         have c15b0:decide (x23_2 < (l0_0.length:Int)) = true:=decide_eq_true c15
         clear c15
         have c16b0:=eq_true (oA:0 ≤ x23_2)
         obtain ⟨ji17,hji17⟩:∃ j_:Int,(shr .u32 a1 x23_2) = j_:=⟨_,rfl⟩
         replace H:(if (Go.bits .and .u32 (ji17) 1) = 1 then ((q21.f (rd l0_0 x23_2)).bind fun t105=>(if t105 = true then (if x23_2 < (l0_1.length:Int) then (if (rd l0_1 x23_2) = (-1) then ((q28.f k2 l0_0 l0_1 a1 x23_2 ((rd l0_0 x23_2) == 1)).bind fun t107=>(if t107 = true then (q20.l0 k2 a1 l0_0 (l0_0.length:Int) (wrap64 (x23_2 + 1)) l0_0 l0_1) else (some false))) else (if 0 ≤ (rd l0_1 x23_2) then (if (Go.bits .and .u32 (shr .u32 a1 (rd l0_1 x23_2)) 1) = 0 then (some false) else ((q28.f k2 l0_0 l0_1 a1 x23_2 ((rd l0_0 x23_2) == 1)).bind fun t109=>(if t109 = true then (q20.l0 k2 a1 l0_0 (l0_0.length:Int) (wrap64 (x23_2 + 1)) l0_0 l0_1) else (some false)))) else (none))) else (none)) else (some false))) else (q20.l0 k2 a1 l0_0 (l0_0.length:Int) (wrap64 (x23_2 + 1)) l0_0 l0_1)) = some r:=by first|(rw [hji17] at H;exact H)|(simp only [hji17] at H ⊢;exact H)
         have hji17_:(a1 / 2 ^ min x23_2.toNat 32) = ji17:=hji17
         have hji17z:x23_2 ≤ 32 → (a1 / 2 ^ x23_2.toNat) = ji17:=shr_small hji17
         by_cases c18:(Go.bits .and .u32 (ji17) 1) = 1
         ·rw [if_pos c18] at H
          have c18b0:((Go.bits .and .u32 (ji17) 1) == 1) = true:=beq_iff_eq.mpr c18
          have c18b1:((Go.bits .and .u32 (ji17) 1) != 1) = false:=bne_eq_false_iff_eq.mpr c18
          clear c18
          replace H:=Option.bind_eq_some_iff.mp H
          obtain ⟨t105,A190,H⟩:=H
          replace H:(if t105 = true then (if x23_2 < (l0_1.length:Int) then (if (rd l0_1 x23_2) = (-1) then ((q28.f k2 l0_0 l0_1 a1 x23_2 ((rd l0_0 x23_2) == 1)).bind fun t107=>(if t107 = true then (q20.l0 k2 a1 l0_0 (l0_0.length:Int) (wrap64 (x23_2 + 1)) l0_0 l0_1) else (some false))) else (if 0 ≤ (rd l0_1 x23_2) then (if (Go.bits .and .u32 (shr .u32 a1 (rd l0_1 x23_2)) 1) = 0 then (some false) else ((q28.f k2 l0_0 l0_1 a1 x23_2 ((rd l0_0 x23_2) == 1)).bind fun t109=>(if t109 = true then (q20.l0 k2 a1 l0_0 (l0_0.length:Int) (wrap64 (x23_2 + 1)) l0_0 l0_1) else (some false)))) else (none))) else (none)) else (some false)) = some r:=H
          have A19:=Aside0.mk A190
          clear A190
          by_cases c20:t105 = true
          ·subst c20
           have H1:(if x23_2 < (l0_1.length:Int) then (if (rd l0_1 x23_2) = (-1) then ((q28.f k2 l0_0 l0_1 a1 x23_2 ((rd l0_0 x23_2) == 1)).bind fun t107=>(if t107 = true then (q20.l0 k2 a1 l0_0 (l0_0.length:Int) (wrap64 (x23_2 + 1)) l0_0 l0_1) else (some false))) else (if 0 ≤ (rd l0_1 x23_2) then (if (Go.bits .and .u32 (shr .u32 a1 (rd l0_1 x23_2)) 1) = 0 then (some false) else ((q28.f k2 l0_0 l0_1 a1 x23_2 ((rd l0_0 x23_2) == 1)).bind fun t109=>(if t109 = true then (q20.l0 k2 a1 l0_0 (l0_0.length:Int) (wrap64 (x23_2 + 1)) l0_0 l0_1) else (some false)))) else (none))) else (none)) = some r:=by rw [if_pos rfl] at H;exact H
           clear H
           have H:=H1
           clear H1
           by_cases c21:x23_2 < (l0_1.length:Int)
           ·rw [if_pos c21] at H
            have c21b0:decide (x23_2 < (l0_1.length:Int)) = true:=decide_eq_true c21
            clear c21
            by_cases c22:(rd l0_1 x23_2) = (-1)
            ·rw [if_pos c22] at H
             have c22b0:((rd l0_1 x23_2) == (-1)) = true:=beq_iff_eq.mpr c22
             have c22b1:((rd l0_1 x23_2) != (-1)) = false:=bne_eq_false_iff_eq.mpr c22
             clear c22
             replace H:=Option.bind_eq_some_iff.mp H
             obtain ⟨t107,A230,H⟩:=H
             replace H:(if t107 = true then (q20.l0 k2 a1 l0_0 (l0_0.length:Int) (wrap64 (x23_2 + 1)) l0_0 l0_1) else (some false)) = some r:=H
             have A23:=Aside0.mk A230
             clear A230
             by_cases c24:t107 = true
             ·subst c24
              have H1:(q20.l0 k2 a1 l0_0 (l0_0.length:Int) (wrap64 (x23_2 + 1)) l0_0 l0_1) = some r:=by rw [if_pos rfl] at H;exact H
              clear H
              have H:=H1
              clear H1
              have H':=Aside0.mk H
              clear H
              have p104:0 ≤ (x23_2:Int):=oA
              have q104:x23_2 < (l0_0.length:Int):=oA
              obtain ⟨ad104,e104,hx104_0⟩:=Kd.at_int HR0_0.out x23_2 p104 q104
              cases e104
              replace hx104_0:=(HB.out.cell (World.block_lt_of_cell? w _ hx104_0)).trans hx104_0
              replace p104:=eq_true p104
              replace q104:=eq_true q104
              go_wp2_with (first|(go_at_call 45;(with_reducible refine (q21.calls (rd l0_0 x23_2) true _ A19.out).mono ?_);rintro e w' ⟨rfl,⟨nd,rfl⟩⟩;have hcz25_0:wr.cell? ⟨gb101,0,none⟩ = some (.slice (some ad104) l0_0.length c0_0):=(blk_cell BK101.out 0).trans rfl;have hcz25_1:wr.cell? ⟨gb101,1,none⟩ = some (.slice A0_1 l0_1.length c0_1):=(blk_cell BK101.out 1).trans rfl;have hfz25_0:=blk_frozen BK101.out 0;have hfz25_1:=blk_frozen BK101.out 1;have p106:0 ≤ (x23_2:Int):=oA;have q106:x23_2 < (l0_1.length:Int):=oA;obtain ⟨ad106,e106,hx106_0⟩:=Kd.at_int HR0_1.out x23_2 p106 q106;cases e106;replace hx106_0:=(HB.out.cell (World.block_lt_of_cell? w _ hx106_0)).trans hx106_0;replace p106:=eq_true p106;replace q106:=eq_true q106)|(go_at_call 44;(with_reducible refine (q28.calls k2 _ _ l0_0 _ _ l0_1 a1 x23_2 ((rd l0_0 x23_2) == 1) true _ ?side1 ?side2 ?side3 ?side4 A23.out).mono ?_);(case side1=>exact (Kd.C_below HR0_0.out (bg HB.out GE101 GE101)));(case side2=>exact HC0_0.out);(case side3=>exact (Kd.C_below HR0_1.out (bg HB.out GE101 GE101)));(case side4=>exact HC0_1.out);rintro e w26 ⟨rfl,hb⟩;have n0_:=zk (blk_below (g:=gb101) (o:=.cells #[.slice (some ad104) l0_0.length c0_0,.slice (some ad106) l0_1.length c0_1] 24 (0,0)) (hq BK101.out) hb);have n1_:=zk (below_step (bg HB.out GE101 GE101) hb);clear BK101;clear HB;have BK101:=n0_;have HB:=n1_;clear n0_ n1_;(try clear hb);(try clear hb2);(try clear hk);(try clear hi)))
              go_roundg k2
              case measure=>have:=HJ2.out;have:=HK2.out;omega
              case rel=>exact ⟨(wrap64 (x23_2 + 1)),oE,(by first|exact H'|exact ⟨by simp only [hji17];exact H'.out⟩),⟨by have:=HJ2.out;have:=HK2.out;omega⟩,⟨hq BK101.out⟩,⟨bg HB.out GE101 GE101⟩⟩
             ·replace c24:=Bool.eq_false_iff.mpr c24
              subst c24
              have H1:(some false) = some r:=by rw [if_neg (show ¬ (false = true) by decide)] at H;exact H
              clear H
              have H:=H1
              clear H1
              obtain rfl:=Option.some.inj H
              have p104:0 ≤ (x23_2:Int):=oA
              have q104:x23_2 < (l0_0.length:Int):=oA
              obtain ⟨ad104,e104,hx104_0⟩:=Kd.at_int HR0_0.out x23_2 p104 q104
              cases e104
              replace hx104_0:=(HB.out.cell (World.block_lt_of_cell? w _ hx104_0)).trans hx104_0
              replace p104:=eq_true p104
              replace q104:=eq_true q104
              go_wp2_with (first|(go_at_call 45;(with_reducible refine (q21.calls (rd l0_0 x23_2) true _ A19.out).mono ?_);rintro e w' ⟨rfl,⟨nd,rfl⟩⟩;have hcz27_0:wr.cell? ⟨gb101,0,none⟩ = some (.slice (some ad104) l0_0.length c0_0):=(blk_cell BK101.out 0).trans rfl;have hcz27_1:wr.cell? ⟨gb101,1,none⟩ = some (.slice A0_1 l0_1.length c0_1):=(blk_cell BK101.out 1).trans rfl;have hfz27_0:=blk_frozen BK101.out 0;have hfz27_1:=blk_frozen BK101.out 1;have p106:0 ≤ (x23_2:Int):=oA;have q106:x23_2 < (l0_1.length:Int):=oA;obtain ⟨ad106,e106,hx106_0⟩:=Kd.at_int HR0_1.out x23_2 p106 q106;cases e106;replace hx106_0:=(HB.out.cell (World.block_lt_of_cell? w _ hx106_0)).trans hx106_0;replace p106:=eq_true p106;replace q106:=eq_true q106)|(go_at_call 44;(with_reducible refine (q28.calls k2 _ _ l0_0 _ _ l0_1 a1 x23_2 ((rd l0_0 x23_2) == 1) false _ ?side1 ?side2 ?side3 ?side4 A23.out).mono ?_);(case side1=>exact (Kd.C_below HR0_0.out (bg HB.out GE101 GE101)));(case side2=>exact HC0_0.out);(case side3=>exact (Kd.C_below HR0_1.out (bg HB.out GE101 GE101)));(case side4=>exact HC0_1.out);rintro e w28 ⟨rfl,hb⟩;have n0_:=zk (blk_below (g:=gb101) (o:=.cells #[.slice (some ad104) l0_0.length c0_0,.slice (some ad106) l0_1.length c0_1] 24 (0,0)) (hq BK101.out) hb);have n1_:=zk (below_step (bg HB.out GE101 GE101) hb);clear BK101;clear HB;have BK101:=n0_;have HB:=n1_;clear n0_ n1_;(try clear hb);(try clear hb2);(try clear hk);(try clear hi)))
              go_ret
              exact ⟨by first|rfl|(simp [errW_none,errW_some] <;> rfl)|(simp only [← hji17];first|rfl|(simp [errW_none,errW_some] <;> rfl))|(simp [*,errW_none,errW_some] <;> rfl),bg HB.out GE101 GE101⟩
            ·rw [if_neg c22] at H
             have c22b0:((rd l0_1 x23_2) == (-1)) = false:=beq_eq_false_iff_ne.mpr c22
             have c22b1:((rd l0_1 x23_2) != (-1)) = true:=bne_iff_ne.mpr c22
             by_cases c29:0 ≤ (rd l0_1 x23_2)
             ·rw [if_pos c29] at H
              have c29b0:=eq_true c29
              have c29b1:decide (0 ≤ (rd l0_1 x23_2)) = true:=decide_eq_true c29
              clear c29
              obtain ⟨ji30,hji30⟩:∃ j_:Int,(shr .u32 a1 (rd l0_1 x23_2)) = j_:=⟨_,rfl⟩
              replace H:(if (Go.bits .and .u32 (ji30) 1) = 0 then (some false) else ((q28.f k2 l0_0 l0_1 a1 x23_2 ((rd l0_0 x23_2) == 1)).bind fun t109=>(if t109 = true then (q20.l0 k2 a1 l0_0 (l0_0.length:Int) (wrap64 (x23_2 + 1)) l0_0 l0_1) else (some false)))) = some r:=by first|(rw [hji30] at H;exact H)|(simp only [hji30] at H ⊢;exact H)
              (try rw [hji30] at A19)
              have hji30_:(a1 / 2 ^ min (rd l0_1 x23_2).toNat 32) = ji30:=hji30
              have hji30z:(rd l0_1 x23_2) ≤ 32 → (a1 / 2 ^ (rd l0_1 x23_2).toNat) = ji30:=shr_small hji30
              by_cases c31:(Go.bits .and .u32 (ji30) 1) = 0
              ·rw [if_pos c31] at H
               have c31b0:((Go.bits .and .u32 (ji30) 1) == 0) = true:=beq_iff_eq.mpr c31
               have c31b1:((Go.bits .and .u32 (ji30) 1) != 0) = false:=bne_eq_false_iff_eq.mpr c31
               clear c31
               obtain rfl:=Option.some.inj H
               have p104:0 ≤ (x23_2:Int):=oA
               have q104:x23_2 < (l0_0.length:Int):=oA
               obtain ⟨ad104,e104,hx104_0⟩:=Kd.at_int HR0_0.out x23_2 p104 q104
               cases e104
               replace hx104_0:=(HB.out.cell (World.block_lt_of_cell? w _ hx104_0)).trans hx104_0
               replace p104:=eq_true p104
               replace q104:=eq_true q104
               go_wp2_with (first|(go_at_call 45;(with_reducible refine (q21.calls (rd l0_0 x23_2) true _ A19.out).mono ?_);rintro e w' ⟨rfl,⟨nd,rfl⟩⟩;have hcz32_0:wr.cell? ⟨gb101,0,none⟩ = some (.slice (some ad104) l0_0.length c0_0):=(blk_cell BK101.out 0).trans rfl;have hcz32_1:wr.cell? ⟨gb101,1,none⟩ = some (.slice A0_1 l0_1.length c0_1):=(blk_cell BK101.out 1).trans rfl;have hfz32_0:=blk_frozen BK101.out 0;have hfz32_1:=blk_frozen BK101.out 1;have p106:0 ≤ (x23_2:Int):=oA;have q106:x23_2 < (l0_1.length:Int):=oA;obtain ⟨ad106,e106,hx106_0⟩:=Kd.at_int HR0_1.out x23_2 p106 q106;cases e106;replace hx106_0:=(HB.out.cell (World.block_lt_of_cell? w _ hx106_0)).trans hx106_0;replace p106:=eq_true p106;replace q106:=eq_true q106;have p108:0 ≤ (x23_2:Int):=oA;have q108:x23_2 < (l0_1.length:Int):=oA;obtain ⟨ad108,e108,hx108_0⟩:=Kd.at_int HR0_1.out x23_2 p108 q108;obtain rfl:ad106 = ad108:=(by injection e108);replace hx108_0:=(HB.out.cell (World.block_lt_of_cell? w _ hx108_0)).trans hx108_0;replace p108:=eq_true p108;replace q108:=eq_true q108))
               go_ret
               exact ⟨by first|rfl|(simp [errW_none,errW_some] <;> rfl)|(simp only [← hji17,← hji30];first|rfl|(simp [errW_none,errW_some] <;> rfl))|(simp [*,errW_none,errW_some] <;> rfl),bg HB.out GE101 GE101⟩
              ·rw [if_neg c31] at H
               have c31b0:((Go.bits .and .u32 (ji30) 1) == 0) = false:=beq_eq_false_iff_ne.mpr c31
               have c31b1:((Go.bits .and .u32 (ji30) 1) != 0) = true:=bne_iff_ne.mpr c31
               replace H:=Option.bind_eq_some_iff.mp H
               obtain ⟨t109,A330,H⟩:=H
               replace H:(if t109 = true then (q20.l0 k2 a1 l0_0 (l0_0.length:Int) (wrap64 (x23_2 + 1)) l0_0 l0_1) else (some false)) = some r:=H
               have A33:=Aside0.mk A330
               clear A330
               by_cases c34:t109 = true
               ·subst c34
                have H1:(q20.l0 k2 a1 l0_0 (l0_0.length:Int) (wrap64 (x23_2 + 1)) l0_0 l0_1) = some r:=by rw [if_pos rfl] at H;exact H
                clear H
                have H:=H1
                clear H1
                have H':=Aside0.mk H
                clear H
                have p104:0 ≤ (x23_2:Int):=oA
                have q104:x23_2 < (l0_0.length:Int):=oA
                obtain ⟨ad104,e104,hx104_0⟩:=Kd.at_int HR0_0.out x23_2 p104 q104
                cases e104
                replace hx104_0:=(HB.out.cell (World.block_lt_of_cell? w _ hx104_0)).trans hx104_0
                replace p104:=eq_true p104
                replace q104:=eq_true q104
                go_wp2_with (first|(go_at_call 45;(with_reducible refine (q21.calls (rd l0_0 x23_2) true _ A19.out).mono ?_);rintro e w' ⟨rfl,⟨nd,rfl⟩⟩;have hcz35_0:wr.cell? ⟨gb101,0,none⟩ = some (.slice (some ad104) l0_0.length c0_0):=(blk_cell BK101.out 0).trans rfl;have hcz35_1:wr.cell? ⟨gb101,1,none⟩ = some (.slice A0_1 l0_1.length c0_1):=(blk_cell BK101.out 1).trans rfl;have hfz35_0:=blk_frozen BK101.out 0;have hfz35_1:=blk_frozen BK101.out 1;have p106:0 ≤ (x23_2:Int):=oA;have q106:x23_2 < (l0_1.length:Int):=oA;obtain ⟨ad106,e106,hx106_0⟩:=Kd.at_int HR0_1.out x23_2 p106 q106;cases e106;replace hx106_0:=(HB.out.cell (World.block_lt_of_cell? w _ hx106_0)).trans hx106_0;replace p106:=eq_true p106;replace q106:=eq_true q106;have p108:0 ≤ (x23_2:Int):=oA;have q108:x23_2 < (l0_1.length:Int):=oA;obtain ⟨ad108,e108,hx108_0⟩:=Kd.at_int HR0_1.out x23_2 p108 q108;obtain rfl:ad106 = ad108:=(by injection e108);replace hx108_0:=(HB.out.cell (World.block_lt_of_cell? w _ hx108_0)).trans hx108_0;replace p108:=eq_true p108;replace q108:=eq_true q108)|(go_at_call 44;(with_reducible refine (q28.calls k2 _ _ l0_0 _ _ l0_1 a1 x23_2 ((rd l0_0 x23_2) == 1) true _ ?side1 ?side2 ?side3 ?side4 A33.out).mono ?_);(case side1=>exact (Kd.C_below HR0_0.out (bg HB.out GE101 GE101)));(case side2=>exact HC0_0.out);(case side3=>exact (Kd.C_below HR0_1.out (bg HB.out GE101 GE101)));(case side4=>exact HC0_1.out);rintro e w36 ⟨rfl,hb⟩;have n0_:=zk (blk_below (g:=gb101) (o:=.cells #[.slice (some ad104) l0_0.length c0_0,.slice (some ad106) l0_1.length c0_1] 24 (0,0)) (hq BK101.out) hb);have n1_:=zk (below_step (bg HB.out GE101 GE101) hb);clear BK101;clear HB;have BK101:=n0_;have HB:=n1_;clear n0_ n1_;(try clear hb);(try clear hb2);(try clear hk);(try clear hi)))
                go_roundg k2
                case measure=>have:=HJ2.out;have:=HK2.out;omega
                case rel=>exact ⟨(wrap64 (x23_2 + 1)),oE,(by first|exact H'|exact ⟨by simp only [hji17,hji30];exact H'.out⟩),⟨by have:=HJ2.out;have:=HK2.out;omega⟩,⟨hq BK101.out⟩,⟨bg HB.out GE101 GE101⟩⟩
               ·replace c34:=Bool.eq_false_iff.mpr c34
                subst c34
                have H1:(some false) = some r:=by rw [if_neg (show ¬ (false = true) by decide)] at H;exact H
                clear H
                have H:=H1
                clear H1
                obtain rfl:=Option.some.inj H
                have p104:0 ≤ (x23_2:Int):=oA
                have q104:x23_2 < (l0_0.length:Int):=oA
                obtain ⟨ad104,e104,hx104_0⟩:=Kd.at_int HR0_0.out x23_2 p104 q104
                cases e104
                replace hx104_0:=(HB.out.cell (World.block_lt_of_cell? w _ hx104_0)).trans hx104_0
                replace p104:=eq_true p104
                replace q104:=eq_true q104
                go_wp2_with (first|(go_at_call 45;(with_reducible refine (q21.calls (rd l0_0 x23_2) true _ A19.out).mono ?_);rintro e w' ⟨rfl,⟨nd,rfl⟩⟩;have hcz37_0:wr.cell? ⟨gb101,0,none⟩ = some (.slice (some ad104) l0_0.length c0_0):=(blk_cell BK101.out 0).trans rfl;have hcz37_1:wr.cell? ⟨gb101,1,none⟩ = some (.slice A0_1 l0_1.length c0_1):=(blk_cell BK101.out 1).trans rfl;have hfz37_0:=blk_frozen BK101.out 0;have hfz37_1:=blk_frozen BK101.out 1;have p106:0 ≤ (x23_2:Int):=oA;have q106:x23_2 < (l0_1.length:Int):=oA;obtain ⟨ad106,e106,hx106_0⟩:=Kd.at_int HR0_1.out x23_2 p106 q106;cases e106;replace hx106_0:=(HB.out.cell (World.block_lt_of_cell? w _ hx106_0)).trans hx106_0;replace p106:=eq_true p106;replace q106:=eq_true q106;have p108:0 ≤ (x23_2:Int):=oA;have q108:x23_2 < (l0_1.length:Int):=oA;obtain ⟨ad108,e108,hx108_0⟩:=Kd.at_int HR0_1.out x23_2 p108 q108;obtain rfl:ad106 = ad108:=(by injection e108);replace hx108_0:=(HB.out.cell (World.block_lt_of_cell? w _ hx108_0)).trans hx108_0;replace p108:=eq_true p108;replace q108:=eq_true q108)|(go_at_call 44;(with_reducible refine (q28.calls k2 _ _ l0_0 _ _ l0_1 a1 x23_2 ((rd l0_0 x23_2) == 1) false _ ?side1 ?side2 ?side3 ?side4 A33.out).mono ?_);(case side1=>exact (Kd.C_below HR0_0.out (bg HB.out GE101 GE101)));(case side2=>exact HC0_0.out);(case side3=>exact (Kd.C_below HR0_1.out (bg HB.out GE101 GE101)));(case side4=>exact HC0_1.out);rintro e w38 ⟨rfl,hb⟩;have n0_:=zk (blk_below (g:=gb101) (o:=.cells #[.slice (some ad104) l0_0.length c0_0,.slice (some ad106) l0_1.length c0_1] 24 (0,0)) (hq BK101.out) hb);have n1_:=zk (below_step (bg HB.out GE101 GE101) hb);clear BK101;clear HB;have BK101:=n0_;have HB:=n1_;clear n0_ n1_;(try clear hb);(try clear hb2);(try clear hk);(try clear hi)))
                go_ret
                exact ⟨by first|rfl|(simp [errW_none,errW_some] <;> rfl)|(simp only [← hji17,← hji30];first|rfl|(simp [errW_none,errW_some] <;> rfl))|(simp [*,errW_none,errW_some] <;> rfl),bg HB.out GE101 GE101⟩
             ·rw [if_neg c29] at H
              exact absurd H (by simp)
           ·rw [if_neg c21] at H
            exact absurd H (by simp)
          ·replace c20:=Bool.eq_false_iff.mpr c20
           subst c20
           have H1:(some false) = some r:=by rw [if_neg (show ¬ (false = true) by decide)] at H;exact H
           clear H
           have H:=H1
           clear H1
           obtain rfl:=Option.some.inj H
           have p104:0 ≤ (x23_2:Int):=oA
           have q104:x23_2 < (l0_0.length:Int):=oA
           obtain ⟨ad104,e104,hx104_0⟩:=Kd.at_int HR0_0.out x23_2 p104 q104
           cases e104
           replace hx104_0:=(HB.out.cell (World.block_lt_of_cell? w _ hx104_0)).trans hx104_0
           replace p104:=eq_true p104
           replace q104:=eq_true q104
           go_wp2_with (first|(go_at_call 45;(with_reducible refine (q21.calls (rd l0_0 x23_2) false _ A19.out).mono ?_);rintro e w' ⟨rfl,⟨nd,rfl⟩⟩))
           go_ret
           exact ⟨by first|rfl|(simp [errW_none,errW_some] <;> rfl)|(simp only [← hji17];first|rfl|(simp [errW_none,errW_some] <;> rfl))|(simp [*,errW_none,errW_some] <;> rfl),bg HB.out GE101 GE101⟩
         ·rw [if_neg c18] at H
          have c18b0:((Go.bits .and .u32 (ji17) 1) == 1) = false:=beq_eq_false_iff_ne.mpr c18
          have c18b1:((Go.bits .and .u32 (ji17) 1) != 1) = true:=bne_iff_ne.mpr c18
          have H':=Aside0.mk H
          clear H
          have p104:0 ≤ (x23_2:Int):=oA
          have q104:x23_2 < (l0_0.length:Int):=oA
          obtain ⟨ad104,e104,hx104_0⟩:=Kd.at_int HR0_0.out x23_2 p104 q104
          cases e104
          replace hx104_0:=(HB.out.cell (World.block_lt_of_cell? w _ hx104_0)).trans hx104_0
          replace p104:=eq_true p104
          replace q104:=eq_true q104
          go_wp2
          go_roundg k2
          case measure=>have:=HJ2.out;have:=HK2.out;omega
          case rel=>exact ⟨(wrap64 (x23_2 + 1)),oE,(by first|exact H'|exact ⟨by simp only [hji17];exact H'.out⟩),⟨by have:=HJ2.out;have:=HK2.out;omega⟩,⟨hq BK101.out⟩,⟨bg HB.out GE101 GE101⟩⟩
        ·rw [if_neg c15] at H
         exact absurd H (by simp)
       ·rw [if_neg c14] at H
        exact absurd H (by simp)
      ·rw [if_neg c13] at H
       have c13b0:decide (x23_2 < (l0_0.length:Int)) = false:=decide_eq_false c13
       clear c13
       obtain rfl:=Option.some.inj H
       go_wp2
       go_ret
       exact ⟨by first|rfl|(simp [errW_none,errW_some] <;> rfl)|(simp [*,errW_none,errW_some] <;> rfl),bg HB.out GE101 GE101⟩
def q3.l0:Nat → Int → List Int → Int → Int → List Int → List Int → Option (List Int)
 | 0,_,_,_,_,_,_=>none
 | k + 1,x1,x5,x9,x10,x102000,x102001=>if x10 < x9 then (if 0 ≤ x10 then (if x10 < (x102001.length:Int) then (if (rd x102001 x10) = x1 then (if x5.length < 17592186044416 then (q3.l0 k x1 (x5 ++ [x10]) x9 (wrap64 (x10 + 1)) x102000 x102001) else (none)) else (q3.l0 k x1 x5 x9 (wrap64 (x10 + 1)) x102000 x102001)) else (none)) else (none)) else (some x5)
def q3.f (k:Nat) (l0_0:List Int) (l0_1:List Int) (a1:Int):Option (List Int):=q3.l0 k a1 ([]:List Int) (l0_1.length:Int) 0 l0_0 l0_1
set_option maxHeartbeats 8000000 in
set_option maxRecDepth 100000 in
theorem q3.calls (k:Nat) (A0_0:Option Addr) (c0_0:Nat) (l0_0:List Int) (A0_1:Option Addr) (c0_1:Nat) (l0_1:List Int) (a1:Int) (r:List Int) (w:World) (hr0_0:Kd.C (Kd.int .i64) w A0_0 l0_0.length l0_0) (hc0_0:l0_0.length ≤ c0_0) (hr0_1:Kd.C (Kd.int .i64) w A0_1 l0_1.length l0_1) (hc0_1:l0_1.length ≤ c0_1) (h:q3.f k l0_0 l0_1 a1 = some r) :
  Calls Try.prog 46 #[.agg #[.slice A0_0 l0_0.length c0_0,.slice A0_1 l0_1.length c0_1],.int .i64 a1] w fun e w'=>∃ v0_:Value,e = .returned (v0_) ∧ Kd.R (Kd.int .i64) 3 w' w.heap.size (fun _=>True) v0_ r ∧ Below w.heap.size w w':=by
 have hu25:=Try.underlying25
 have HR0_0:=Aside0.mk hr0_0
 have HC0_0:=Aside0.mk hc0_0
 clear hr0_0 hc0_0
 have HR0_1:=Aside0.mk hr0_1
 have HC0_1:=Aside0.mk hc0_1
 clear hr0_1 hc0_1
 have HB:=zk (Below.refl w.heap.size w)
 have H:(q3.l0 k a1 ([]:List Int) (l0_1.length:Int) 0 l0_0 l0_1) = some r:=h
 clear h
 have H':=Aside0.mk H
 clear H
 go_enter Try.func46,Try.ntmps46
 go_wp2_with (first|((with_reducible refine gate_dst (N:=2) rfl ?_);refine box_event ?hg (N:=2) ?hd (cs:=#[.slice A0_0 l0_0.length c0_0,.slice A0_1 l0_1.length c0_1]) (t:=25) ?hr ?_;(case hd=>rfl);(case hg=>rfl);(case hr=>first|(go_simp;done)|(go_simp;rfl));intro gb101 hg w3 hbox hb;have n0_:=zk (below_step (bq HB.out) hb);have n1_:=zk (hbox);have n2_:=zk ((by rw [hg];exact (below_size (bq HB.out)):w.heap.size ≤ gb101));have n3_:=zk ((by rw [hg];exact (below_size (bq HB.out)):w.heap.size ≤ gb101));clear HB;have HB:=n0_;have BK101:=n1_;have GW101:=n2_;have GE101:=n3_;clear n0_ n1_ n2_ n3_;clear hb hbox hg;have hcz4_0:w3.cell? ⟨gb101,0,none⟩ = some (.slice A0_0 l0_0.length c0_0):=(blk_cell BK101.out 0).trans rfl;have hcz4_1:w3.cell? ⟨gb101,1,none⟩ = some (.slice A0_1 l0_1.length c0_1):=(blk_cell BK101.out 1).trans rfl;have hfz4_0:=blk_frozen BK101.out 0;have hfz4_1:=blk_frozen BK101.out 1))
 go_loopg [5,10] k (fun kq v5 v10 w'=>∃ (x5_1:List Int) (x10_1:Int),v10 = .int .i64 x10_1 ∧ Aside0 (q3.l0 kq a1 x5_1 (l0_1.length:Int) x10_1 l0_0 l0_1 = some r) ∧ Aside0 (kq ≤ k) ∧ Aside0 (Kd.R (Kd.int .i64) 3 w' w.heap.size (fun _=>True) v5 x5_1) ∧ Aside0 (w'.heap[gb101]? = some (.cells #[(.slice A0_0 l0_0.length c0_0),(.slice A0_1 l0_1.length c0_1)] 25 (0,0))) ∧ Aside0 (Below w.heap.size w w'))
 case atStart=>exact ⟨(([]:List Int)),(0),oE,H',⟨Nat.le_refl _⟩,⟨by first|exact Kd.R_nil _ _ _ _ _|exact Kd.N_nil _ _ _ _ _|exact Kd.V_nil _ _ _ _ _|exact Kd.Q_nil _ _ _ _ _|exact Kd.S_nil _ _ _ _ _⟩,⟨hq BK101.out⟩,⟨bg HB.out GE101 GE101⟩⟩
 case round =>
  clear H'
  try clear p2
  try clear c4
  try clear hcz4_0
  try clear hcz4_1
  try clear hfz4_0
  try clear hfz4_1
  obtain ⟨x5_1,x10_1,rfl,HA,HK1,HO_5,BK101,HB⟩:=hrel
  cases gk with
  | zero=>exact absurd HA.out (by simp [q3.l0])
  | succ k1 =>
   have H:=HA.out
   clear HA
   simp only [q3.l0] at H
   by_cases c5:x10_1 < (l0_1.length:Int)
   ·rw [if_pos c5] at H
    have c5b0:decide (x10_1 < (l0_1.length:Int)) = true:=decide_eq_true c5
    clear c5
    by_cases c6:0 ≤ x10_1
    ·rw [if_pos c6] at H
     have c6b0:decide (0 ≤ x10_1) = true:=decide_eq_true c6
     clear c6
     by_cases c7:x10_1 < (l0_1.length:Int)
     ·rw [if_pos c7] at H
      have c7b0:decide (x10_1 < (l0_1.length:Int)) = true:=decide_eq_true c7
      clear c7
      by_cases c8:(rd l0_1 x10_1) = a1
      ·rw [if_pos c8] at H
       have c8b0:((rd l0_1 x10_1) == a1) = true:=beq_iff_eq.mpr c8
       have c8b1:((rd l0_1 x10_1) != a1) = false:=bne_eq_false_iff_eq.mpr c8
       clear c8
       by_cases c9:x5_1.length < 17592186044416
       ·rw [if_pos c9] at H
        have LMc9:=Aside0.mk c9
        clear c9
        obtain ⟨y103,hy103⟩:∃ y_:List Int,y_ = (x5_1 ++ [x10_1]):=⟨_,rfl⟩
        replace H:(q3.l0 k1 a1 y103 (l0_1.length:Int) (wrap64 (x10_1 + 1)) l0_0 l0_1) = some r:=by first|(rw [hy103];with_reducible exact H)|(have H2_:=(Option.bind_some _ _).symm.trans H;rw [hy103];with_reducible exact H2_)|(have H2_:=(Option.bind_some _ _).symm.trans H;with_reducible exact H2_)|with_reducible exact H|(rw [hy103];exact H)|exact H
        have Ny103:=Aside0.mk hy103
        clear hy103
        have H':=Aside0.mk H
        clear H
        have hcz10_0:wr.cell? ⟨gb101,0,none⟩ = some (.slice A0_0 l0_0.length c0_0):=(blk_cell BK101.out 0).trans rfl
        have hcz10_1:wr.cell? ⟨gb101,1,none⟩ = some (.slice A0_1 l0_1.length c0_1):=(blk_cell BK101.out 1).trans rfl
        have hfz10_0:=blk_frozen BK101.out 0
        have hfz10_1:=blk_frozen BK101.out 1
        have p102:0 ≤ (x10_1:Int):=oA
        have q102:x10_1 < (l0_1.length:Int):=oA
        obtain ⟨ad102,e102,hx102_0⟩:=Kd.at_int HR0_1.out x10_1 p102 q102
        cases e102
        replace hx102_0:=(HB.out.cell (World.block_lt_of_cell? w _ hx102_0)).trans hx102_0
        replace p102:=eq_true p102
        replace q102:=eq_true q102
        go_wp2_with (first|((with_reducible refine gate_builtin (b:=.append) (xs:=#[.tmp 20,.tmp 22]) rfl ?_);at_builtin;refine Kd.R_append (Kd.int .i64) (w0:=w) w.heap.size rfl (.tmp 20) (.tmp 22) 22 3 (.int .i64 0) 8 rfl Try.underlying22 info3 rfl (by decide) (by omega) u5 x5_1 x10_1 [.int .i64 x10_1] (fun _=>True) (fun _=>False) rfl rfl ?aP (fun _ hk=>hk.elim) ?aF ?aO ?aB ?aS ?aL ?_;(case aP=>exact rfl);(case aB=>exact (bg HB.out GE101 GE101));(case aF=>exact (fun _ _=>trivial));(case aO=>exact (rq HO_5.out));(case aS=>exact (below_size (bg HB.out GE101 GE101)));(case aL=>have:=LMc9.out;omega);intro v104 w11 ho hb hg hat;rw [← Ny103.out] at ho;have n0_:=zk (blk_grown (g:=gb101) (o:=.cells #[.slice A0_0 l0_0.length c0_0,.slice (some ad102) l0_1.length c0_1] 25 (0,0)) (hq BK101.out) hg (Kd.R_ne HO_5.out BK101.out (by decide)));have n1_:=zk (hb);have n2_:=zk (ho);clear BK101;clear HB;clear HO_5;have BK101:=n0_;have HB:=n1_;have HO105:=n2_;clear n0_ n1_ n2_;clear ho hb hg hat))
        go_roundg k1
        case measure=>have:=HK1.out;omega
        case rel=>exact ⟨(y103),(wrap64 (x10_1 + 1)),oE,H',⟨by have:=HK1.out;omega⟩,⟨rq HO105.out⟩,⟨hq BK101.out⟩,⟨bg HB.out GE101 GE101⟩⟩
       ·rw [if_neg c9] at H
        exact absurd H (by simp)
      ·rw [if_neg c8] at H
       have c8b0:((rd l0_1 x10_1) == a1) = false:=beq_eq_false_iff_ne.mpr c8
       have c8b1:((rd l0_1 x10_1) != a1) = true:=bne_iff_ne.mpr c8
       have H':=Aside0.mk H
       clear H
       have hcz12_0:wr.cell? ⟨gb101,0,none⟩ = some (.slice A0_0 l0_0.length c0_0):=(blk_cell BK101.out 0).trans rfl
       have hcz12_1:wr.cell? ⟨gb101,1,none⟩ = some (.slice A0_1 l0_1.length c0_1):=(blk_cell BK101.out 1).trans rfl
       have hfz12_0:=blk_frozen BK101.out 0
       have hfz12_1:=blk_frozen BK101.out 1
       have p102:0 ≤ (x10_1:Int):=oA
       have q102:x10_1 < (l0_1.length:Int):=oA
       obtain ⟨ad102,e102,hx102_0⟩:=Kd.at_int HR0_1.out x10_1 p102 q102
       cases e102
       replace hx102_0:=(HB.out.cell (World.block_lt_of_cell? w _ hx102_0)).trans hx102_0
       replace p102:=eq_true p102
       replace q102:=eq_true q102
       go_wp2
       go_roundg k1
       case measure=>have:=HK1.out;omega
       case rel=>exact ⟨(x5_1),(wrap64 (x10_1 + 1)),oE,H',⟨by have:=HK1.out;omega⟩,⟨rq HO_5.out⟩,⟨hq BK101.out⟩,⟨bg HB.out GE101 GE101⟩⟩
     ·rw [if_neg c7] at H
      exact absurd H (by simp)
    ·rw [if_neg c6] at H
     exact absurd H (by simp)
   ·rw [if_neg c5] at H
    have c5b0:decide (x10_1 < (l0_1.length:Int)) = false:=decide_eq_false c5
    clear c5
    obtain rfl:=Option.some.inj H
    go_wp2
    go_ret
    exact ⟨_,by first|rfl|(simp [errW_none,errW_some] <;> rfl)|(simp [*,errW_none,errW_some] <;> rfl),rq HO_5.out,bg HB.out GE101 GE101⟩
end Go.Proofs.Ytnomeokicfpidaa.Q
