-- merged and slimmed by slim.py (a program of this repo)
import Derived.Lib.BitFns
import Derived.Outline
import Derived.Test.YtnomeokicfpidaaKEnterProper4
import Derived.StillTailTactics
namespace Go.Proofs.Ytnomeokicfpidaa.M
open Go.RowKit Go.Proofs.YtnomeokicfpidaaW.PrintWords Go.Proofs.YtnomeokicfpidaaW.PrintLast Go.Proofs.YtnomeokicfpidaaW.PrintMore
set_option linter.unusedVariables false
theorem w64 {x:Int} (h0:-9223372036854775808 ≤ x) (h1:x ≤ 9223372036854775807):wrap64 x = x:=by unfold wrap64;omega
theorem w1 (i:Nat) (h:i < 4611686018427387904):wrap64 ((i:Int) + 1) = ((i + 1:Nat):Int):=by rw [w64 (by omega) (by omega)];omega
theorem rd_nat (xs:List Int) (i:Nat):rd xs (i:Int) = xs.getD i 0:=by simp [rd]
theorem mn_eq (a b:Int):mn a b = min a b:=by unfold mn;split <;> omega
theorem Ev.st {α:Type} {g f:Nat → Option α} {r:α} (k:Ev f r) (h:∀ k,g (k + 1) = f k):Ev g r:=Ev.step h k
theorem Ev.ret {α:Type} {g:Nat → Option α} {r:α} (h:∀ k,g (k + 1) = some r):Ev g r:=Ev.step (f:=fun _=>some r) h (Ev.now r)
theorem Ev.cg {α:Type} {g f:Nat → Option α} {r:α} (k:Ev f r) (h:∀ k,g k = f k):Ev g r:=Ev.congr h k
theorem Ev.bd {α β:Type} {g:Nat → Option α} {f:Nat → α → Option β} {a:α} {r:β} (h:Ev g a) (k:Ev (fun n=>f n a) r):Ev (fun n=>(g n).bind (fun x=>f n x)) r:=Ev.bind h k
theorem Ev.som {α β:Type} {f:Nat → α → Option β} {a:α} {r:β} (k:Ev (fun n=>f n a) r):Ev (fun n=>(some a).bind (fun x=>f n x)) r:=k
theorem Ev.pos {α:Type} {c:Prop} [Decidable c] {f g:Nat → Option α} {r:α} (h:c) (k:Ev f r):Ev (fun n=>if c then f n else g n) r:=by simpa [h] using k
theorem Ev.neg {α:Type} {c:Prop} [Decidable c] {f g:Nat → Option α} {r:α} (h:¬ c) (k:Ev g r):Ev (fun n=>if c then f n else g n) r:=by simpa [h] using k
theorem Ev.ite {α:Type} {c:Prop} [Decidable c] {f g:Nat → Option α} {r s:α} (k:c → Ev f r) (l:¬ c → Ev g s):Ev (fun n=>if c then f n else g n) (if c then r else s):=by
 by_cases h:c
 ·simpa [h] using k h
 ·simpa [h] using l h
theorem Ev.iff {α:Type} {c:Prop} [Decidable c] {f g:Nat → Option α} {r:α} (k:c → Ev f r) (l:¬ c → Ev g r):Ev (fun n=>if c then f n else g n) r:=by
 by_cases h:c
 ·simpa [h] using k h
 ·simpa [h] using l h
theorem Ev.val {α:Type} {g:Nat → Option α} {r s:α} (h:Ev g r) (e:r = s):Ev g s:=e ▸ h
end Go.Proofs.Ytnomeokicfpidaa.M
namespace Go.Proofs.Ytnomeokicfpidaa.Q
open Go.RowKit Go.Proofs.YtnomeokicfpidaaW.PrintWords Go.Proofs.YtnomeokicfpidaaW.PrintLast Go.Proofs.YtnomeokicfpidaaW.PrintMore
attribute [local go_sem] max2_int min2_int max_two min_two max_three min_three max_four min_four
set_option linter.unusedVariables false
set_option linter.unusedSimpArgs false
def q18.l0:Nat → List Int → Int → Int → List Int → List Int → Option (Int)
 | 0,_,_,_,_,_=>none
 | k + 1,x9,x10,x11,x102000,x102001=>if x11 < x10 then (if 0 ≤ x11 then (if x11 < (x9.length:Int) then (if 0 ≤ (rd x9 x11) then (if (rd x9 x11) < (x102000.length:Int) then ((q21.f (rd x102000 (rd x9 x11))).bind fun t107=>(if t107 = true then (some (rd x9 x11)) else (q18.l0 k x9 x10 (wrap64 (x11 + 1)) x102000 x102001))) else (none)) else (none)) else (none)) else (none)) else (some (-1))
def q18.f (k:Nat) (l0_0:List Int) (l0_1:List Int) (a1:Int):Option (Int):=(q29.f k l0_0 l0_1 a1).bind fun t102=>(q18.l0 k t102 (t102.length:Int) 0 l0_0 l0_1)
set_option maxHeartbeats 8000000 in
set_option maxRecDepth 100000 in
theorem q18.calls (k:Nat) (A0_0:Option Addr) (c0_0:Nat) (l0_0:List Int) (A0_1:Option Addr) (c0_1:Nat) (l0_1:List Int) (a1:Int) (r:Int) (w:World) (hr0_0:Kd.C (Kd.int .i64) w A0_0 l0_0.length l0_0) (hc0_0:l0_0.length ≤ c0_0) (hr0_1:Kd.C (Kd.int .i64) w A0_1 l0_1.length l0_1) (hc0_1:l0_1.length ≤ c0_1) (h:q18.f k l0_0 l0_1 a1 = some r) :
  Calls Try.prog 30 #[.agg #[.slice A0_0 l0_0.length c0_0,.slice A0_1 l0_1.length c0_1],.int .i64 a1] w fun e w'=>e = .returned (.int .i64 r) ∧ Below w.heap.size w w':=by
 have hu24:=Try.underlying24
 have HR0_0:=Aside0.mk hr0_0
 have HC0_0:=Aside0.mk hc0_0
 clear hr0_0 hc0_0
 have HR0_1:=Aside0.mk hr0_1
 have HC0_1:=Aside0.mk hc0_1
 clear hr0_1 hc0_1
 have HB:=zk (Below.refl w.heap.size w)
 have H:((q29.f k l0_0 l0_1 a1).bind fun t102=>(q18.l0 k t102 (t102.length:Int) 0 l0_0 l0_1)) = some r:=h
 clear h
 replace H:=Option.bind_eq_some_iff.mp H
 obtain ⟨t102,A30,H⟩:=H
 replace H:(q18.l0 k t102 (t102.length:Int) 0 l0_0 l0_1) = some r:=H
 have A3:=Aside0.mk A30
 clear A30
 have H':=Aside0.mk H
 clear H
 go_enter Try.func30,Try.ntmps30
 go_wp2_with (first|((with_reducible refine gate_dst (N:=2) rfl ?_);refine box_event ?hg (N:=2) ?hd (cs:=#[.slice A0_0 l0_0.length c0_0,.slice A0_1 l0_1.length c0_1]) (t:=24) ?hr ?_;(case hd=>rfl);(case hg=>rfl);(case hr=>first|(go_simp;done)|(go_simp;rfl));intro gb101 hg w4 hbox hb;have n0_:=zk (below_step (bq HB.out) hb);have n1_:=zk (hbox);have n2_:=zk ((by rw [hg];exact (below_size (bq HB.out)):w.heap.size ≤ gb101));have n3_:=zk ((by rw [hg];exact (below_size (bq HB.out)):w.heap.size ≤ gb101));clear HB;have HB:=n0_;have BK101:=n1_;have GW101:=n2_;have GE101:=n3_;clear n0_ n1_ n2_ n3_;clear hb hbox hg;have hcz5_0:w4.cell? ⟨gb101,0,none⟩ = some (.slice A0_0 l0_0.length c0_0):=(blk_cell BK101.out 0).trans rfl;have hcz5_1:w4.cell? ⟨gb101,1,none⟩ = some (.slice A0_1 l0_1.length c0_1):=(blk_cell BK101.out 1).trans rfl;have hfz5_0:=blk_frozen BK101.out 0;have hfz5_1:=blk_frozen BK101.out 1)|((with_reducible refine gate_callee (f:=25) rfl ?_);refine goesL_ (some 9) rfl rfl Try.func25 (by kernel_rfl) rfl #[.agg #[.slice A0_0 l0_0.length c0_0,.slice A0_1 l0_1.length c0_1],.int .i64 a1] rfl oF ?_;(with_reducible refine (q29.calls k _ _ l0_0 _ _ l0_1 a1 t102 _ ?side1 ?side2 ?side3 ?side4 A3.out).mono ?_);(case side1=>exact cq (Kd.C_below HR0_0.out HB.out));(case side2=>exact HC0_0.out);(case side3=>exact cq (Kd.C_below HR0_1.out HB.out));(case side4=>exact HC0_1.out);rintro e w6 ⟨v103,rfl,ho0,hb⟩;refine ⟨_,rfl,?_⟩;have n0_:=zk (Kd.R_lower ho0 (below_size (bg HB.out GE101 GE101)));have n1_:=zk (blk_below (g:=gb101) (o:=.cells #[.slice A0_0 l0_0.length c0_0,.slice A0_1 l0_1.length c0_1] 24 (0,0)) (hq BK101.out) hb);have n2_:=zk (below_step (bg HB.out GE101 GE101) hb);clear BK101;clear HB;have HO104:=n0_;have BK101:=n1_;have HB:=n2_;clear n0_ n1_ n2_;(try clear hb);(try clear hb2);(try clear hk);(try clear hi);(try clear ho0);obtain ⟨Ao7,co7,eo7⟩:=Kd.R_slice HO104.out;subst eo7))
 go_loopg [11] k (fun kq v11 w'=>∃ (x11_1:Int),v11 = .int .i64 x11_1 ∧ Aside0 (q18.l0 kq t102 (t102.length:Int) x11_1 l0_0 l0_1 = some r) ∧ Aside0 (kq ≤ k) ∧ Aside0 (Kd.R (Kd.int .i64) 3 w' w.heap.size (fun _=>True) (.slice Ao7 t102.length co7) t102) ∧ Aside0 (w'.heap[gb101]? = some (.cells #[(.slice A0_0 l0_0.length c0_0),(.slice A0_1 l0_1.length c0_1)] 24 (0,0))) ∧ Aside0 (Below w.heap.size w w'))
 case atStart=>exact ⟨(0),oE,H',⟨Nat.le_refl _⟩,⟨rq HO104.out⟩,⟨hq BK101.out⟩,⟨bg HB.out GE101 GE101⟩⟩
 case round =>
  clear H'
  try clear c2
  try clear p2
  try clear c3
  try clear hcz5_0
  try clear hcz5_1
  try clear hfz5_0
  try clear hfz5_1
  obtain ⟨x11_1,rfl,HA,HK1,HO_9,BK101,HB⟩:=hrel
  cases gk with
  | zero=>exact absurd HA.out (by simp [q18.l0])
  | succ k1 =>
   have H:=HA.out
   clear HA
   simp only [q18.l0] at H
   by_cases c8:x11_1 < (t102.length:Int)
   ·rw [if_pos c8] at H
    have c8b0:decide (x11_1 < (t102.length:Int)) = true:=decide_eq_true c8
    clear c8
    by_cases c9:0 ≤ x11_1
    ·rw [if_pos c9] at H
     have c9b0:decide (0 ≤ x11_1) = true:=decide_eq_true c9
     clear c9
     by_cases c10:x11_1 < (t102.length:Int)
     ·rw [if_pos c10] at H
      have c10b0:decide (x11_1 < (t102.length:Int)) = true:=decide_eq_true c10
      clear c10
      by_cases c11:0 ≤ (rd t102 x11_1)
      ·rw [if_pos c11] at H
       have c11b0:decide (0 ≤ (rd t102 x11_1)) = true:=decide_eq_true c11
       clear c11
       by_cases c12:(rd t102 x11_1) < (l0_0.length:Int)
       ·rw [if_pos c12] at H
        have c12b0:decide ((rd t102 x11_1) < (l0_0.length:Int)) = true:=decide_eq_true c12
        clear c12
        replace H:=Option.bind_eq_some_iff.mp H
        obtain ⟨t107,A130,H⟩:=H
        replace H:(if t107 = true then (some (rd t102 x11_1)) else (q18.l0 k1 t102 (t102.length:Int) (wrap64 (x11_1 + 1)) l0_0 l0_1)) = some r:=H
        have A13:=Aside0.mk A130
        clear A130
        by_cases c14:t107 = true
        ·subst c14
         have H1:(some (rd t102 x11_1)) = some r:=by rw [if_pos rfl] at H;exact H
         clear H
         have H:=H1
         clear H1
         obtain rfl:=Option.some.inj H
         have p105:0 ≤ (x11_1:Int):=oA
         have q105:x11_1 < (t102.length:Int):=oA
         obtain ⟨ad105,e105,hx105_0⟩:=Kd.at_int (Kd.R_reads' HO_9.out).2.2 x11_1 p105 q105
         cases e105
         replace p105:=eq_true p105
         replace q105:=eq_true q105
         have hcz15_0:wr.cell? ⟨gb101,0,none⟩ = some (.slice A0_0 l0_0.length c0_0):=(blk_cell BK101.out 0).trans rfl
         have hcz15_1:wr.cell? ⟨gb101,1,none⟩ = some (.slice A0_1 l0_1.length c0_1):=(blk_cell BK101.out 1).trans rfl
         have hfz15_0:=blk_frozen BK101.out 0
         have hfz15_1:=blk_frozen BK101.out 1
         have p106:0 ≤ ((rd t102 x11_1):Int):=oA
         have q106:(rd t102 x11_1) < (l0_0.length:Int):=oA
         obtain ⟨ad106,e106,hx106_0⟩:=Kd.at_int HR0_0.out (rd t102 x11_1) p106 q106
         cases e106
         replace hx106_0:=(HB.out.cell (World.block_lt_of_cell? w _ hx106_0)).trans hx106_0
         replace p106:=eq_true p106
         replace q106:=eq_true q106
         go_wp2_with (first|((with_reducible refine gate_callee (f:=45) rfl ?_);refine goesL_ (some 20) rfl rfl Try.func45 (by kernel_rfl) rfl #[.int .i64 (rd l0_0 (rd t102 x11_1))] rfl oF ?_;(with_reducible refine (q21.calls (rd l0_0 (rd t102 x11_1)) true _ A13.out).mono ?_);rintro e w' ⟨rfl,⟨nd,rfl⟩⟩;refine ⟨_,rfl,?_⟩))
         go_ret
         exact ⟨by first|rfl|(simp [errW_none,errW_some] <;> rfl)|(simp [*,errW_none,errW_some] <;> rfl),bg HB.out GE101 GE101⟩
        ·replace c14:=Bool.eq_false_iff.mpr c14
         subst c14
         have H1:(q18.l0 k1 t102 (t102.length:Int) (wrap64 (x11_1 + 1)) l0_0 l0_1) = some r:=by rw [if_neg (show ¬ (false = true) by decide)] at H;exact H
         clear H
         have H:=H1
         clear H1
         have H':=Aside0.mk H
         clear H
         have p105:0 ≤ (x11_1:Int):=oA
         have q105:x11_1 < (t102.length:Int):=oA
         obtain ⟨ad105,e105,hx105_0⟩:=Kd.at_int (Kd.R_reads' HO_9.out).2.2 x11_1 p105 q105
         cases e105
         replace p105:=eq_true p105
         replace q105:=eq_true q105
         have hcz16_0:wr.cell? ⟨gb101,0,none⟩ = some (.slice A0_0 l0_0.length c0_0):=(blk_cell BK101.out 0).trans rfl
         have hcz16_1:wr.cell? ⟨gb101,1,none⟩ = some (.slice A0_1 l0_1.length c0_1):=(blk_cell BK101.out 1).trans rfl
         have hfz16_0:=blk_frozen BK101.out 0
         have hfz16_1:=blk_frozen BK101.out 1
         have p106:0 ≤ ((rd t102 x11_1):Int):=oA
         have q106:(rd t102 x11_1) < (l0_0.length:Int):=oA
         obtain ⟨ad106,e106,hx106_0⟩:=Kd.at_int HR0_0.out (rd t102 x11_1) p106 q106
         cases e106
         replace hx106_0:=(HB.out.cell (World.block_lt_of_cell? w _ hx106_0)).trans hx106_0
         replace p106:=eq_true p106
         replace q106:=eq_true q106
         go_wp2_with (first|((with_reducible refine gate_callee (f:=45) rfl ?_);refine goesL_ (some 20) rfl rfl Try.func45 (by kernel_rfl) rfl #[.int .i64 (rd l0_0 (rd t102 x11_1))] rfl oF ?_;(with_reducible refine (q21.calls (rd l0_0 (rd t102 x11_1)) false _ A13.out).mono ?_);rintro e w' ⟨rfl,⟨nd,rfl⟩⟩;refine ⟨_,rfl,?_⟩))
         go_roundg k1
         case measure=>have:=HK1.out;omega
         case rel=>exact ⟨(wrap64 (x11_1 + 1)),oE,H',⟨by have:=HK1.out;omega⟩,⟨rq HO_9.out⟩,⟨hq BK101.out⟩,⟨bg HB.out GE101 GE101⟩⟩
       ·rw [if_neg c12] at H
        exact absurd H (by simp)
      ·rw [if_neg c11] at H
       exact absurd H (by simp)
     ·rw [if_neg c10] at H
      exact absurd H (by simp)
    ·rw [if_neg c9] at H
     exact absurd H (by simp)
   ·rw [if_neg c8] at H
    have c8b0:decide (x11_1 < (t102.length:Int)) = false:=decide_eq_false c8
    clear c8
    obtain rfl:=Option.some.inj H
    go_wp2
    go_ret
    exact ⟨by first|rfl|(simp [errW_none,errW_some] <;> rfl)|(simp [*,errW_none,errW_some] <;> rfl),bg HB.out GE101 GE101⟩
mutual
def q22.j0:Nat → Int → Bool → List Int → List Int → Option (Bool)
 | 0,_,_,_,_=>none
 | k + 1,x3,x23,x102000,x102001=>if x23 = true then (some false) else (q22.l0 k x3 x102000 (x102000.length:Int) 0 x102000 x102001)
def q22.l0:Nat → Int → List Int → Int → Int → List Int → List Int → Option (Bool)
 | 0,_,_,_,_,_,_=>none
 | k + 1,x3,x25,x26,x27,x102000,x102001=>if x27 < x26 then (if 0 ≤ x27 then (if x27 < (x25.length:Int) then (if x27 < (x102001.length:Int) then (if (rd x25 x27) < 1 then (q22.j2 k x3 (rd x25 x27) (rd x102001 x27) x25 x26 x27 true x102000 x102001) else (if (rd x25 x27) > 4 then (q22.j2 k x3 (rd x25 x27) (rd x102001 x27) x25 x26 x27 true x102000 x102001) else (if (rd x102001 x27) < (-1) then (q22.j2 k x3 (rd x25 x27) (rd x102001 x27) x25 x26 x27 true x102000 x102001) else (q22.j2 k x3 (rd x25 x27) (rd x102001 x27) x25 x26 x27 (decide ((rd x102001 x27) ≥ x27)) x102000 x102001)))) else (none)) else (none)) else (none)) else (q22.l1 k x3 (-1) x102000 x102001)
def q22.j2:Nat → Int → Int → Int → List Int → Int → Int → Bool → List Int → List Int → Option (Bool)
 | 0,_,_,_,_,_,_,_,_,_=>none
 | k + 1,x3,x5,x6,x25,x26,x27,x51,x102000,x102001=>if x51 = true then (some false) else (if x6 = (-1) then ((q21.f x5).bind fun t104=>(if t104 = true then (q22.l0 k x3 x25 x26 (wrap64 (x27 + 1)) x102000 x102001) else (some false))) else (if 0 ≤ x6 then (if x6 < (x102000.length:Int) then ((q21.f (rd x102000 x6)).bind fun t106=>(if t106 = true then ((q21.f x5).bind fun t107=>(if t107 = true then (q22.l0 k x3 x25 x26 (wrap64 (x27 + 1)) x102000 x102001) else (if (rd x102000 x6) = 1 then (q22.l0 k x3 x25 x26 (wrap64 (x27 + 1)) x102000 x102001) else (some false)))) else (some false))) else (none)) else (none)))
def q22.l1:Nat → Int → Int → List Int → List Int → Option (Bool)
 | 0,_,_,_,_=>none
 | k + 1,x3,x7,x102000,x102001=>if x7 < x3 then (if x7 = (-1) then ((q18.f k x102000 x102001 x7).bind fun t109=>(if t109 < 0 then (some false) else (q22.l1 k x3 (wrap64 (x7 + 1)) x102000 x102001))) else ((q29.f k x102000 x102001 x7).bind fun t110=>(if (t110.length:Int) > 0 then ((q18.f k x102000 x102001 x7).bind fun t113=>(if t113 < 0 then (some false) else (q22.l1 k x3 (wrap64 (x7 + 1)) x102000 x102001))) else (q22.l1 k x3 (wrap64 (x7 + 1)) x102000 x102001)))) else (some true)
end
def q22.f (k:Nat) (l0_0:List Int) (l0_1:List Int):Option (Bool):=if (l0_0.length:Int) < 1 then (q22.j0 k (l0_0.length:Int) true l0_0 l0_1) else (if (l0_0.length:Int) > 24 then (q22.j0 k (l0_0.length:Int) true l0_0 l0_1) else (q22.j0 k (l0_0.length:Int) ((l0_1.length:Int) != (l0_0.length:Int)) l0_0 l0_1))
def q0.l0:Nat → List Int → Int → Int → List Int → List Int → Option (Int)
 | 0,_,_,_,_,_=>none
 | k + 1,x9,x10,x11,x102000,x102001=>if x11 < x10 then (if 0 ≤ x11 then (if x11 < (x9.length:Int) then (if 0 ≤ (rd x9 x11) then (if (rd x9 x11) < (x102000.length:Int) then (if (rd x102000 (rd x9 x11)) ≤ 2 then (some (rd x9 x11)) else (q0.l0 k x9 x10 (wrap64 (x11 + 1)) x102000 x102001)) else (none)) else (none)) else (none)) else (none)) else (some (-1))
def q0.f (k:Nat) (l0_0:List Int) (l0_1:List Int) (a1:Int):Option (Int):=(q3.f k l0_0 l0_1 a1).bind fun t102=>(q0.l0 k t102 (t102.length:Int) 0 l0_0 l0_1)
end Go.Proofs.Ytnomeokicfpidaa.Q
namespace Go.Proofs.Ytnomeokicfpidaa.M
open Go.RowKit Go.Proofs.YtnomeokicfpidaaW.PrintWords Go.Proofs.YtnomeokicfpidaaW.PrintLast Go.Proofs.YtnomeokicfpidaaW.PrintMore Go.Proofs.Ytnomeokicfpidaa.Q
set_option linter.unusedVariables false
def solidB (k:Int):Bool:=k == 1 || k == 2
def kidsFrom (P:List Int) (at_:Int) (i d:Nat):List Int:=((List.range' i d).filter (fun j=>decide (P.getD j 0 = at_))).map (fun j:Nat=>(j:Int))
def kids (P:List Int) (at_:Int):List Int:=kidsFrom P at_ 0 P.length
theorem kidsFrom_succ (P:List Int) (a:Int) (i d:Nat):kidsFrom P a i (d + 1) = if P.getD i 0 = a then (i:Int) :: kidsFrom P a (i + 1) d else kidsFrom P a (i + 1) d:=by
 unfold kidsFrom
 rw [List.range'_succ,List.filter_cons]
 by_cases h:P.getD i 0 = a
 ·rw [if_pos h,if_pos (decide_eq_true h)];rfl
 ·rw [if_neg h,if_neg (by rw [decide_eq_false h];simp)]
theorem solidB_iff {k:Int}:solidB k = true ↔ k = 1 ∨ k = 2:=by unfold solidB;simp
theorem kids_len (P:List Int) (a:Int):(kids P a).length ≤ P.length:=by
 unfold kids kidsFrom
 rw [List.length_map]
 exact Nat.le_trans (List.length_filter_le _ _) (by simp)
theorem mem_kids {P:List Int} {a x:Int}:x ∈ kids P a ↔ ∃ j:Nat,x = j ∧ j < P.length ∧ P.getD j 0 = a:=by
 unfold kids kidsFrom
 constructor
 ·intro h
  obtain ⟨j,hj,rfl⟩:=List.mem_map.1 h
  obtain ⟨h1,h2⟩:=List.mem_filter.1 hj
  rw [List.mem_range'_1] at h1
  exact ⟨j,rfl,by omega,by simpa using h2⟩
 ·rintro ⟨j,rfl,h1,h2⟩
  exact List.mem_map.2 ⟨j,List.mem_filter.2 ⟨List.mem_range'_1.2 ⟨by omega,by omega⟩,by simpa using h2⟩,rfl⟩
theorem solid_f (a:Int):q21.f a = some (solidB a):=by
 unfold q21.f solidB
 by_cases h:a = 1
 ·simp [h]
 ·rw [if_neg h];simp [h]
theorem Kids_l0 (a:Int) (P:List Int) (hP:P.length < 1099511627776):∀ (d i:Nat) (acc:List Int),i + d = P.length → acc.length ≤ i →
  Ev (fun k=>q29.l0 k a acc P (P.length:Int) (i:Int)) (acc ++ kidsFrom P a i d):=by
 intro d
 induction d with
 | zero =>
  intro i acc hi ha
  refine Ev.ret (fun k=>?_)
  simp only [q29.l0]
  rw [if_neg (by omega)]
  simp [kidsFrom]
 | succ d ih =>
  intro i acc hi ha
  rw [kidsFrom_succ]
  by_cases hp:P.getD i 0 = a
  ·rw [if_pos hp]
   refine Ev.st (Ev.val (ih (i + 1) (acc ++ [(i:Int)]) (by omega) (by simp;omega)) (by simp)) (fun k=>?_)
   simp only [q29.l0]
   rw [if_pos (by omega),if_pos (by omega),if_pos (by omega),rd_nat,if_pos hp,if_pos (by omega),w1 i (by omega)]
  ·rw [if_neg hp]
   refine Ev.st (ih (i + 1) acc (by omega) (by omega)) (fun k=>?_)
   simp only [q29.l0]
   rw [if_pos (by omega),if_pos (by omega),if_pos (by omega),rd_nat,if_neg hp,w1 i (by omega)]
theorem Kids_f (K P:List Int) (a:Int) (hP:P.length < 1099511627776):Ev (fun k=>q29.f k K P a) (kids P a):=by
 have h:=Kids_l0 a P hP P.length 0 [] (by omega) (by simp)
 simpa [q29.f,kids] using h
theorem rKids_l0 (a:Int) (K P:List Int) (hP:P.length < 1099511627776):∀ (d i:Nat) (acc:List Int),i + d = P.length → acc.length ≤ i →
  Ev (fun k=>q3.l0 k a acc (P.length:Int) (i:Int) K P) (acc ++ kidsFrom P a i d):=by
 intro d
 induction d with
 | zero =>
  intro i acc hi ha
  refine Ev.ret (fun k=>?_)
  simp only [q3.l0]
  rw [if_neg (by omega)]
  simp [kidsFrom]
 | succ d ih =>
  intro i acc hi ha
  rw [kidsFrom_succ]
  by_cases hp:P.getD i 0 = a
  ·rw [if_pos hp]
   refine Ev.st (Ev.val (ih (i + 1) (acc ++ [(i:Int)]) (by omega) (by simp;omega)) (by simp)) (fun k=>?_)
   simp only [q3.l0]
   rw [if_pos (by omega),if_pos (by omega),if_pos (by omega),rd_nat,if_pos hp,if_pos (by omega),w1 i (by omega)]
  ·rw [if_neg hp]
   refine Ev.st (ih (i + 1) acc (by omega) (by omega)) (fun k=>?_)
   simp only [q3.l0]
   rw [if_pos (by omega),if_pos (by omega),if_pos (by omega),rd_nat,if_neg hp,w1 i (by omega)]
theorem rKids_f (K P:List Int) (a:Int) (hP:P.length < 1099511627776):Ev (fun k=>q3.f k K P a) (kids P a):=by
 have h:=rKids_l0 a K P hP P.length 0 [] (by omega) (by simp)
 simpa [q3.f,kids] using h
def firstSolid (K:List Int):List Int → Int
 | []=>-1
 | x :: xs=>if solidB (rd K x) = true then x else firstSolid K xs
def initial (K P:List Int) (a:Int):Int:=firstSolid K (kids P a)
theorem Initial_l0 (K P:List Int) (L:List Int) (hL:∀ x ∈ L,0 ≤ x ∧ x < (K.length:Int)) (hl:L.length < 1099511627776):∀ (d i:Nat),i + d = L.length →
  Ev (fun k=>q18.l0 k L (L.length:Int) (i:Int) K P) (firstSolid K (L.drop i)):=by
 intro d
 induction d with
 | zero =>
  intro i hi
  refine Ev.ret (fun k=>?_)
  simp only [q18.l0]
  rw [if_neg (by omega),List.drop_of_length_le (by omega)];rfl
 | succ d ih =>
  intro i hi
  have hd:L.drop i = L.getD i 0 :: L.drop (i + 1):=by
   rw [List.drop_eq_getElem_cons (by omega),List.getD_eq_getElem?_getD,List.getElem?_eq_getElem (by omega)];rfl
  have hm:L.getD i 0 ∈ L:=by rw [List.getD_eq_getElem?_getD,List.getElem?_eq_getElem (by omega)];exact List.getElem_mem _
  have hb:=hL _ hm
  rw [hd,firstSolid]
  by_cases hs:solidB (rd K (L.getD i 0)) = true
  ·refine Ev.ret (fun k=>?_)
   simp only [q18.l0]
   rw [if_pos (by omega),if_pos (by omega),if_pos (by omega),rd_nat,if_pos hb.1,if_pos hb.2,solid_f,Option.bind_some,if_pos hs,if_pos hs]
  ·rw [if_neg hs]
   refine Ev.st (ih (i + 1) (by omega)) (fun k=>?_)
   simp only [q18.l0]
   rw [if_pos (by omega),if_pos (by omega),if_pos (by omega),rd_nat,if_pos hb.1,if_pos hb.2,solid_f,Option.bind_some,if_neg hs,w1 i (by omega)]
theorem kids_in {K P:List Int} (hn:P.length = K.length) (a:Int):∀ x ∈ kids P a,0 ≤ x ∧ x < (K.length:Int):=by
 intro x hx
 obtain ⟨j,rfl,h1,_⟩:=mem_kids.1 hx
 omega
theorem Initial_f (K P:List Int) (a:Int) (hn:P.length = K.length) (hP:P.length < 1099511627776):Ev (fun k=>q18.f k K P a) (initial K P a):=by
 unfold q18.f
 refine Ev.bd (Kids_f K P a hP) ?_
 have h:=Initial_l0 K P (kids P a) (kids_in hn a) (Nat.lt_of_le_of_lt (kids_len P a) hP) (kids P a).length 0 (by omega)
 simpa [initial] using h
def okS (K P:List Int) (i:Nat):Bool :=
 decide (1 ≤ K.getD i 0) && (decide (K.getD i 0 ≤ 4) && (decide (-1 ≤ P.getD i 0) && (decide (P.getD i 0 < i) &&
  (if P.getD i 0 = -1 then solidB (K.getD i 0) else solidB (rd K (P.getD i 0)) && (solidB (K.getD i 0) || rd K (P.getD i 0) == 1)))))
def compB (K P:List Int) (a:Int):Bool:=(a != -1 && (kids P a).isEmpty) || decide (0 ≤ initial K P a)
def compsB (K P:List Int):Bool:=compB K P (-1) && (List.range' 0 K.length).all (fun j=>compB K P (j:Int))
def validB (K P:List Int):Bool:=decide (1 ≤ K.length ∧ K.length ≤ 24 ∧ P.length = K.length) && ((List.range' 0 K.length).all (okS K P) && compsB K P)
theorem okS_iff {K P:List Int} {i:Nat}:okS K P i = true ↔ 1 ≤ K.getD i 0 ∧ K.getD i 0 ≤ 4 ∧ -1 ≤ P.getD i 0 ∧ P.getD i 0 < i ∧
  (if P.getD i 0 = -1 then solidB (K.getD i 0) else solidB (rd K (P.getD i 0)) && (solidB (K.getD i 0) || rd K (P.getD i 0) == 1)) = true:=by
 unfold okS
 simp only [Bool.and_eq_true,decide_eq_true_eq]
end Go.Proofs.Ytnomeokicfpidaa.M
namespace Go.Proofs.Ytnomeokicfpidaa.M
open Go.RowKit Go.Proofs.YtnomeokicfpidaaW.PrintWords Go.Proofs.YtnomeokicfpidaaW.PrintLast Go.Proofs.YtnomeokicfpidaaW.PrintMore
set_option linter.unusedVariables false
def Ok (K P:List Int):Prop:=P.length = K.length ∧ 1 ≤ K.length ∧ (∀ i,i < K.length → okS K P i = true) ∧ (∀ a,kids P a ≠ [] → 0 ≤ initial K P a) ∧ K.length ≤ 24
theorem Ok.of_valid {K P:List Int} (h:validB K P = true):Ok K P:=by
 unfold validB compsB at h
 rw [Bool.and_eq_true,decide_eq_true_eq,Bool.and_eq_true,Bool.and_eq_true,List.all_eq_true,List.all_eq_true] at h
 obtain ⟨⟨h1,h2,h3⟩,h4,h5,h6⟩:=h
 have ok:∀ i,i < K.length → okS K P i = true:=fun i hi=>h4 i (List.mem_range'_1.2 ⟨by omega,by omega⟩)
 refine ⟨h3,h1,ok,fun a ha=>?_,h2⟩
 obtain ⟨x,hx⟩:=List.exists_mem_of_ne_nil _ ha
 obtain ⟨j,rfl,j1,j2⟩:=mem_kids.1 hx
 obtain ⟨_,_,b1,b2,_⟩:=okS_iff.1 (ok j (by omega))
 rw [j2] at b1 b2
 by_cases e:a = -1
 ·subst e
  unfold compB at h5
  simpa using h5
 ·have:=h6 a.toNat (List.mem_range'_1.2 ⟨by omega,by omega⟩)
  rw [show ((a.toNat:Nat):Int) = a by omega] at this
  unfold compB at this
  rw [show (a != -1) = true from bne_iff_ne.mpr e,Bool.true_and,Bool.or_eq_true,decide_eq_true_eq] at this
  rcases this with h|h
  ·exact absurd (List.isEmpty_iff.1 h) ha
  ·exact h
theorem firstSolid_cases (K:List Int):∀ L:List Int,firstSolid K L = -1 ∨ (firstSolid K L ∈ L ∧ solidB (rd K (firstSolid K L)) = true)
 | []=>.inl rfl
 | x :: L=>by
  rw [firstSolid]
  by_cases h:solidB (rd K x) = true
  ·rw [if_pos h];exact .inr ⟨List.mem_cons_self ..,h⟩
  ·rw [if_neg h]
   rcases firstSolid_cases K L with h|⟨h,h'⟩
   ·exact .inl h
   ·exact .inr ⟨List.mem_cons_of_mem _ h,h'⟩
theorem initial_cases (K P:List Int) (a:Int):initial K P a = -1 ∨ (initial K P a ∈ kids P a ∧ solidB (rd K (initial K P a)) = true):=firstSolid_cases K (kids P a)
section
variable {K P:List Int} (h:Ok K P)
include h
theorem Ok.kid {a x:Int} (hx:x ∈ kids P a):0 ≤ x ∧ x < K.length ∧ a < x ∧ -1 ≤ a ∧ (a = -1 → solidB (rd K x) = true) ∧ (a ≠ -1 → solidB (rd K a) = true ∧ (solidB (rd K x) = true ∨ rd K a = 1)):=by
 obtain ⟨j,rfl,j1,j2⟩:=mem_kids.1 hx
 have hn:=h.1
 obtain ⟨_,_,b1,b2,b3⟩:=okS_iff.1 (h.2.2.1 j (by omega))
 rw [j2] at b1 b2 b3
 rw [rd_nat]
 refine ⟨by omega,by omega,b2,b1,fun e=>?_,fun e=>?_⟩
 ·rw [if_pos e] at b3;exact b3
 ·rw [if_neg e,Bool.and_eq_true,Bool.or_eq_true,beq_iff_eq] at b3;exact b3
end
def inS (K P:List Int):Nat → Int → List Int
 | 0,_=>[]
 | f + 1,a=>if rd K a = 2 then a :: (kids P a).flatMap (inS K P f) else a :: (if 0 ≤ initial K P a then inS K P f (initial K P a) else [])
end Go.Proofs.Ytnomeokicfpidaa.M
namespace Go.Proofs.Ytnomeokicfpidaa.EW
open Go.RowKit Go.Proofs.YtnomeokicfpidaaW.PrintWords Go.Proofs.YtnomeokicfpidaaW.PrintLast Go.Proofs.YtnomeokicfpidaaW.PrintMore Go.Proofs.Ytnomeokicfpidaa.Q Go.Proofs.Ytnomeokicfpidaa.M
attribute [local go_sem] max2_int min2_int max_two min_two max_three min_three max_four min_four
set_option linter.unusedVariables false
set_option linter.unusedSimpArgs false
theorem infoI:(Try.prog.info? 3).map (fun i=>(i.zero,i.size,i.bytes)) = some (some (.int .i64 0),1,8):=by kernel_rfl
structure WW (w0 w:World) (g:Nat) (sK sP sQ v:Value) (out:List Int):Prop where
 below:Below w0.heap.size w0 w
 ge:w0.heap.size ≤ g
 blk:w.heap[g]? = some (.cells #[sK,sP,sQ,v] 70 (0,0))
 own:Kd.R (Kd.int .i64) 3 w w0.heap.size (fun _=>True) v out
structure Fr (w w' : World) (g:Nat) (v v' : Value):Prop where
 size:w.heap.size ≤ w'.heap.size
 block:∀ k,k < w.heap.size → k ≠ g → some k ≠ v.ownBlock → w'.heap[k]? = w.heap[k]?
 row:v'.ownBlock = v.ownBlock ∨ ∃ b,v'.ownBlock = some b ∧ w.heap.size ≤ b
theorem Fr.refl (w:World) (g:Nat) (v:Value):Fr w w g v v:=⟨Nat.le_refl _,fun _ _ _ _=>rfl,.inl rfl⟩
theorem Fr.trans {w w1 w2:World} {g:Nat} {v v1 v2:Value} (h:Fr w w1 g v v1) (k:Fr w1 w2 g v1 v2):Fr w w2 g v v2:=by
 refine ⟨Nat.le_trans h.size k.size,fun j hj hg hv=>?_,?_⟩
 ·refine (k.block j (Nat.lt_of_lt_of_le hj h.size) hg (fun e=>?_)).trans (h.block j hj hg hv)
  rcases h.row with r|⟨b,r,hb⟩
  ·exact hv (by rw [e,r])
  ·rw [r] at e;injection e with e;omega
 ·rcases k.row with r|⟨b,r,hb⟩
  ·rcases h.row with r'|⟨b,r',hb⟩
   ·exact .inl (r.trans r')
   ·exact .inr ⟨b,r.trans r',hb⟩
  ·exact .inr ⟨b,r,Nat.le_trans h.size hb⟩
theorem Fr.of_below {w w1:World} (h:Below w.heap.size w w1) (g:Nat) (v:Value):Fr w w1 g v v:=⟨h.size,fun k hk _ _=>h.block k hk,.inl rfl⟩
def Put (w0 w:World) (g:Nat) (sK sP sQ v:Value) (r:List Int) (e:Ending) (w' : World):Prop:=e = .returned (.tuple #[]) ∧ ∃ v',WW w0 w' g sK sP sQ v' r ∧ Fr w w' g v v'
theorem WW.lt {w0 w:World} {g:Nat} {sK sP sQ v:Value} {out:List Int} (h:WW w0 w g sK sP sQ v out):g < w.heap.size:=blk_lt h.blk
theorem WW.push {w0 w w1:World} {g:Nat} {sK sP sQ v v1:Value} {out r:List Int} (h:WW w0 w g sK sP sQ v out) (ho:Kd.R (Kd.int .i64) 3 w1 w0.heap.size (fun _=>True) v1 r)
  (hb:Below w0.heap.size w0 w1) (hg:w.grownBy w1 v.ownBlock) (hat:v1.ownBlock = v.ownBlock ∨ ∃ b,v1.ownBlock = some b ∧ w.heap.size ≤ b) :
  w1.heap[g]? = some (.cells #[sK,sP,sQ,v] 70 (0,0)) ∧ WW w0 (w1.setCell ⟨g,3,none⟩ v1) g sK sP sQ v1 r ∧ Fr w (w1.setCell ⟨g,3,none⟩ v1) g v v1:=by
 have hne:some g ≠ v.ownBlock:=Kd.R_ne h.own h.blk (by decide)
 have hb1:=blk_grown h.blk hg hne
 have hne1:some g ≠ v1.ownBlock:=Kd.R_ne ho hb1 (by decide)
 refine ⟨hb1,⟨below_set hb h.ge,h.ge,by simpa using blk_set hb1 3 v1,Kd.R_far (Kd.R_mono (ok':=fun k=>k ≠ g) (Kd.R_types ho hb1 (by decide)) (fun k hk=>hk.2)) (fun k hk=>hk) v1 |> fun z=>Kd.R_mono z (fun _ _=>trivial)⟩,⟨?_,fun k hk hkg hkv=>?_,hat⟩⟩
 ·simpa using hg.size
 ·rw [Below.heap_setCell w1 ⟨g,3,none⟩ v1 k hkg]
  exact hg.block k hk hkv
theorem WW.step {w0 w w1:World} {g:Nat} {sK sP sQ v:Value} {out:List Int} (h:WW w0 w g sK sP sQ v out) (hb:Below w.heap.size w w1):WW w0 w1 g sK sP sQ v out :=
 ⟨below_then h.below h.below.size hb,h.ge,(hb.block g h.lt).trans h.blk,Kd.R_below h.own hb⟩
theorem row_after {w w' : World} {g B:Nat} {v v' u:Value} {L:List Int} (h:Kd.R (Kd.int .i64) 3 w B (fun _=>True) u L) (hB:g < B) (hv:∀ k,v.ownBlock = some k → k < B) (hF:Fr w w' g v v') :
  Kd.R (Kd.int .i64) 3 w' B (fun _=>True) u L :=
 Kd.R_mono (Kd.R_step (Kd.R_bound h) (fun k hk hlt=>hF.block k hlt (by have:=hk.2.1;omega) (fun e=>by have:=hv k e.symm;have:=hk.2.1;omega))) (fun _ _=>trivial)
theorem flat_take {F:Int → List Int} {L:List Int} {i:Nat} (hi:i < L.length):(L.take (i + 1)).flatMap F = (L.take i).flatMap F ++ F (rd L (i:Int)):=by
 rw [List.take_succ_eq_append_getElem hi,List.flatMap_append,List.flatMap_singleton,rd_nat,List.getD_eq_getElem?_getD,List.getElem?_eq_getElem hi];rfl
theorem flat_le {F:Int → List Int} {L:List Int} (i:Nat):((L.take i).flatMap F).length ≤ (L.flatMap F).length:=by
 have:(L.flatMap F).length = ((L.take i).flatMap F).length + ((L.drop i).flatMap F).length:=by rw [← List.length_append,← List.flatMap_append,List.take_append_drop]
 omega
end Go.Proofs.Ytnomeokicfpidaa.EW
namespace Go.Proofs.Ytnomeokicfpidaa.EW
open Go.RowKit Go.Proofs.YtnomeokicfpidaaW.PrintWords Go.Proofs.YtnomeokicfpidaaW.PrintLast Go.Proofs.YtnomeokicfpidaaW.PrintMore Go.Proofs.Ytnomeokicfpidaa.Q Go.Proofs.Ytnomeokicfpidaa.M
attribute [local go_sem] max2_int min2_int max_two min_two max_three min_three max_four min_four
set_option linter.unusedVariables false
set_option linter.unusedSimpArgs false
set_option maxHeartbeats 8000000 in
set_option maxRecDepth 100000 in
theorem in_leaf {w0:World} {AK AP AQ:Option Addr} {cK cP cQ:Nat} {lK lP lQ:List Int} {g:Nat}
  (hK:Kd.C (Kd.int .i64) w0 AK lK.length lK) (hcK:lK.length ≤ cK) (hP:Kd.C (Kd.int .i64) w0 AP lP.length lP) (hcP:lP.length ≤ cP) (hn:lP.length = lK.length) (h24:lK.length ≤ 24)
  (a:Int) (h0:0 ≤ a) (h1:a < lK.length) (hs:rd lK a = 1) (w:World) (v:Value) (out:List Int)
  (hW:WW w0 w g (.slice AK lK.length cK) (.slice AP lP.length cP) (.slice AQ lQ.length cQ) v out) (hl:(out ++ [a]).length < 17592186044416) (hi:initial lK lP a = -1) :
  Calls Try.prog 52 #[.pointer (some ⟨g,0,none⟩),.int .i64 a] w (Put w0 w g (.slice AK lK.length cK) (.slice AP lP.length cP) (.slice AQ lQ.length cQ) v (out ++ [a])):=by
 obtain ⟨k,hk⟩:=(Initial_f lK lP a hn (by omega)).rounds
 have hu24:=Try.underlying24
 have hu70:=Try.underlying70
 have hc0:w.cell? ⟨g,0,none⟩ = some (.slice AK lK.length cK):=(blk_cell hW.blk 0).trans rfl
 have hc1:w.cell? ⟨g,1,none⟩ = some (.slice AP lP.length cP):=(blk_cell hW.blk 1).trans rfl
 have hc3:w.cell? ⟨g,3,none⟩ = some v:=(blk_cell hW.blk 3).trans rfl
 obtain ⟨ad,e,hx⟩:=Kd.at_int (Kd.C_below hK hW.below) a h0 (by omega)
 subst e
 have p0:=eq_true h0
 have p1:=eq_true h1
 have t1:(rd lK a == 3) = false:=by rw [hs];rfl
 have t2:(rd lK a == 4) = false:=by rw [hs];rfl
 have t3:(rd lK a == 2) = false:=by rw [hs];rfl
 clear h0 h1 hs
 have HW:=Aside0.mk hW
 clear hW
 have HK:=Aside0.mk hk
 clear hk
 have HN:=Aside0.mk hn
 clear hn
 obtain ⟨y,hy⟩:∃ y:List Int,y = out ++ [a]:=⟨_,rfl⟩
 have HI:=Aside0.mk hi
 clear hi
 rw [List.length_append,List.length_singleton] at hl
 have HL:=Aside0.mk hl
 clear hl
 rw [← hy]
 have HY:=Aside0.mk hy
 clear hy
 go_enter Try.func52,Try.ntmps52
 go_wp2_with (first|((with_reducible refine gate_builtin (b:=.append) (xs:=#[.tmp 68,.tmp 70]) rfl ?_);at_builtin;refine Kd.R_append (Kd.int .i64) (w0:=w0) w0.heap.size rfl (.tmp 68) (.tmp 70) 22 3 (.int .i64 0) 8 rfl Try.underlying22 infoI rfl (by decide) (by omega) v out a [.int .i64 a] (fun _=>True) (fun _=>False) rfl rfl ?aP (fun _ hk=>hk.elim) ?aF ?aO ?aB ?aS ?aL ?_;(case aP=>exact rfl);(case aB=>exact HW.out.below);(case aF=>exact (fun _ _=>trivial));(case aO=>exact HW.out.own);(case aS=>exact HW.out.below.size);(case aL=>have:=HL.out;omega);intro v1 w1 ho hb hg hat;rw [← HY.out] at ho;obtain ⟨Av,cv,ev⟩:=Kd.R_slice ho;subst ev;obtain ⟨hb1,hW2,hF⟩:=HW.out.push ho hb hg hat;clear ho hb hg hat;have hc3' : w1.cell? ⟨g,3,none⟩ = some v:=(blk_cell hb1 3).trans rfl;have hf3':=blk_frozen hb1 3;clear hb1;have hd0:(w1.setCell ⟨g,3,none⟩ (.slice Av y.length cv)).cell? ⟨g,0,none⟩ = some (.slice (some ad) lK.length cK):=(blk_cell hW2.blk 0).trans rfl;have hd1:(w1.setCell ⟨g,3,none⟩ (.slice Av y.length cv)).cell? ⟨g,1,none⟩ = some (.slice AP lP.length cP):=(blk_cell hW2.blk 1).trans rfl;have HW2:=Aside0.mk hW2;clear hW2;have HF:=Aside0.mk hF;clear hF)|(go_at_call 30;(with_reducible refine (q18.calls k _ _ lK _ _ lP a _ _ ?s1 ?s2 ?s3 ?s4 HK.out).mono ?_);(case s1=>exact Kd.C_below hK HW2.out.below);(case s2=>exact hcK);(case s3=>exact Kd.C_below hP HW2.out.below);(case s4=>exact hcP);rintro e w3 ⟨rfl,hb3⟩;rw [HI.out];have HB3:=Aside0.mk hb3;clear hb3))
 go_end0
 exact ⟨rfl,_,HW2.out.step HB3.out,HF.out.trans (Fr.of_below HB3.out g _)⟩
set_option maxHeartbeats 8000000 in
set_option maxRecDepth 100000 in
theorem in_plain {w0:World} {AK AP AQ:Option Addr} {cK cP cQ:Nat} {lK lP lQ:List Int} {g:Nat}
  (hK:Kd.C (Kd.int .i64) w0 AK lK.length lK) (hcK:lK.length ≤ cK) (hP:Kd.C (Kd.int .i64) w0 AP lP.length lP) (hcP:lP.length ≤ cP) (hn:lP.length = lK.length) (h24:lK.length ≤ 24)
  (a:Int) (h0:0 ≤ a) (h1:a < lK.length) (hs:rd lK a = 1) (w:World) (v:Value) (out:List Int)
  (hW:WW w0 w g (.slice AK lK.length cK) (.slice AP lP.length cP) (.slice AQ lQ.length cQ) v out) (x:Int) (hx0:0 ≤ x) (r:List Int) (hl:(out ++ [a]).length < 17592186044416) (hi:initial lK lP a = x)
  (IH:∀ (w:World) (v:Value),WW w0 w g (.slice AK lK.length cK) (.slice AP lP.length cP) (.slice AQ lQ.length cQ) v (out ++ [a]) → Calls Try.prog 52 #[.pointer (some ⟨g,0,none⟩),.int .i64 x] w (Put w0 w g (.slice AK lK.length cK) (.slice AP lP.length cP) (.slice AQ lQ.length cQ) v r)) :
  Calls Try.prog 52 #[.pointer (some ⟨g,0,none⟩),.int .i64 a] w (Put w0 w g (.slice AK lK.length cK) (.slice AP lP.length cP) (.slice AQ lQ.length cQ) v (r)):=by
 obtain ⟨k,hk⟩:=(Initial_f lK lP a hn (by omega)).rounds
 have hu24:=Try.underlying24
 have hu70:=Try.underlying70
 have hc0:w.cell? ⟨g,0,none⟩ = some (.slice AK lK.length cK):=(blk_cell hW.blk 0).trans rfl
 have hc1:w.cell? ⟨g,1,none⟩ = some (.slice AP lP.length cP):=(blk_cell hW.blk 1).trans rfl
 have hc3:w.cell? ⟨g,3,none⟩ = some v:=(blk_cell hW.blk 3).trans rfl
 obtain ⟨ad,e,hx⟩:=Kd.at_int (Kd.C_below hK hW.below) a h0 (by omega)
 subst e
 have p0:=eq_true h0
 have p1:=eq_true h1
 have t1:(rd lK a == 3) = false:=by rw [hs];rfl
 have t2:(rd lK a == 4) = false:=by rw [hs];rfl
 have t3:(rd lK a == 2) = false:=by rw [hs];rfl
 clear h0 h1 hs
 have HW:=Aside0.mk hW
 clear hW
 have HK:=Aside0.mk hk
 clear hk
 have HN:=Aside0.mk hn
 clear hn
 obtain ⟨y,hy⟩:∃ y:List Int,y = out ++ [a]:=⟨_,rfl⟩
 have HI:=Aside0.mk hi
 clear hi
 rw [List.length_append,List.length_singleton] at hl
 have HL:=Aside0.mk hl
 clear hl
 rw [← hy] at IH
 have HY:=Aside0.mk hy
 clear hy
 have tx:decide (0 ≤ x) = true:=decide_eq_true hx0
 clear hx0
 have HH:=Aside0.mk IH
 clear IH
 go_enter Try.func52,Try.ntmps52
 go_wp2_with (first|((with_reducible refine gate_builtin (b:=.append) (xs:=#[.tmp 68,.tmp 70]) rfl ?_);at_builtin;refine Kd.R_append (Kd.int .i64) (w0:=w0) w0.heap.size rfl (.tmp 68) (.tmp 70) 22 3 (.int .i64 0) 8 rfl Try.underlying22 infoI rfl (by decide) (by omega) v out a [.int .i64 a] (fun _=>True) (fun _=>False) rfl rfl ?aP (fun _ hk=>hk.elim) ?aF ?aO ?aB ?aS ?aL ?_;(case aP=>exact rfl);(case aB=>exact HW.out.below);(case aF=>exact (fun _ _=>trivial));(case aO=>exact HW.out.own);(case aS=>exact HW.out.below.size);(case aL=>have:=HL.out;omega);intro v1 w1 ho hb hg hat;rw [← HY.out] at ho;obtain ⟨Av,cv,ev⟩:=Kd.R_slice ho;subst ev;obtain ⟨hb1,hW2,hF⟩:=HW.out.push ho hb hg hat;clear ho hb hg hat;have hc3' : w1.cell? ⟨g,3,none⟩ = some v:=(blk_cell hb1 3).trans rfl;have hf3':=blk_frozen hb1 3;clear hb1;have hd0:(w1.setCell ⟨g,3,none⟩ (.slice Av y.length cv)).cell? ⟨g,0,none⟩ = some (.slice (some ad) lK.length cK):=(blk_cell hW2.blk 0).trans rfl;have hd1:(w1.setCell ⟨g,3,none⟩ (.slice Av y.length cv)).cell? ⟨g,1,none⟩ = some (.slice AP lP.length cP):=(blk_cell hW2.blk 1).trans rfl;have HW2:=Aside0.mk hW2;clear hW2;have HF:=Aside0.mk hF;clear hF)|(go_at_call 30;(with_reducible refine (q18.calls k _ _ lK _ _ lP a _ _ ?s1 ?s2 ?s3 ?s4 HK.out).mono ?_);(case s1=>exact Kd.C_below hK HW2.out.below);(case s2=>exact hcK);(case s3=>exact Kd.C_below hP HW2.out.below);(case s4=>exact hcP);rintro e w3 ⟨rfl,hb3⟩;rw [HI.out];have HB3:=Aside0.mk hb3;clear hb3)|(go_at_call 52;(with_reducible refine (HH.out w3 _ (HW2.out.step HB3.out)).mono ?_);rintro e w4 ⟨rfl,v',hW4,hF4⟩))
 go_end0
 exact ⟨rfl,v',hW4,(HF.out.trans (Fr.of_below HB3.out g _)).trans hF4⟩
set_option maxHeartbeats 8000000 in
set_option maxRecDepth 100000 in
theorem in_all {w0:World} {AK AP AQ:Option Addr} {cK cP cQ:Nat} {lK lP lQ:List Int} {g:Nat}
  (hK:Kd.C (Kd.int .i64) w0 AK lK.length lK) (hcK:lK.length ≤ cK) (hP:Kd.C (Kd.int .i64) w0 AP lP.length lP) (hcP:lP.length ≤ cP) (hn:lP.length = lK.length) (h24:lK.length ≤ 24)
  (a:Int) (h0:0 ≤ a) (h1:a < lK.length) (hs:rd lK a = 2) (w:World) (v:Value) (out:List Int)
  (hW:WW w0 w g (.slice AK lK.length cK) (.slice AP lP.length cP) (.slice AQ lQ.length cQ) v out) (F:Int → List Int) (hl:(out ++ [a] ++ (kids lP a).flatMap F).length < 17592186044416)
  (IH:∀ x ∈ kids lP a,∀ (w:World) (v:Value) (out:List Int),WW w0 w g (.slice AK lK.length cK) (.slice AP lP.length cP) (.slice AQ lQ.length cQ) v out → (out ++ F x).length < 17592186044416 → Calls Try.prog 52 #[.pointer (some ⟨g,0,none⟩),.int .i64 x] w (Put w0 w g (.slice AK lK.length cK) (.slice AP lP.length cP) (.slice AQ lQ.length cQ) v (out ++ F x))) :
  Calls Try.prog 52 #[.pointer (some ⟨g,0,none⟩),.int .i64 a] w (Put w0 w g (.slice AK lK.length cK) (.slice AP lP.length cP) (.slice AQ lQ.length cQ) v (out ++ [a] ++ (kids lP a).flatMap F)):=by
 obtain ⟨k,hk⟩:=(Kids_f lK lP a (by omega)).rounds
 have hu24:=Try.underlying24
 have hu70:=Try.underlying70
 have hc0:w.cell? ⟨g,0,none⟩ = some (.slice AK lK.length cK):=(blk_cell hW.blk 0).trans rfl
 have hc1:w.cell? ⟨g,1,none⟩ = some (.slice AP lP.length cP):=(blk_cell hW.blk 1).trans rfl
 have hc3:w.cell? ⟨g,3,none⟩ = some v:=(blk_cell hW.blk 3).trans rfl
 obtain ⟨ad,e,hx⟩:=Kd.at_int (Kd.C_below hK hW.below) a h0 (by omega)
 subst e
 have p0:=eq_true h0
 have p1:=eq_true h1
 have t1:(rd lK a == 3) = false:=by rw [hs];rfl
 have t2:(rd lK a == 4) = false:=by rw [hs];rfl
 have t3:(rd lK a == 2) = true:=by rw [hs];rfl
 clear h0 h1 hs
 have HW:=Aside0.mk hW
 clear hW
 have HK:=Aside0.mk hk
 clear hk
 have HN:=Aside0.mk hn
 clear hn
 obtain ⟨y,hy⟩:∃ y:List Int,y = out ++ [a]:=⟨_,rfl⟩
 have hlen:y.length = out.length + 1:=by rw [hy,List.length_append,List.length_singleton]
 rw [← hy] at hl ⊢
 have hly:y.length + ((kids lP a).flatMap F).length < 17592186044416:=by rw [← List.length_append];exact hl
 have HL:=zk (show out.length + 1 < 17592186044416 by omega)
 have HLY:=Aside0.mk hly
 clear hl hly hlen
 have HY:=Aside0.mk hy
 clear hy
 have HH:=Aside0.mk IH
 clear IH
 have hkl:=kids_len lP a
 obtain ⟨L,hL⟩:∃ L,L = kids lP a:=⟨_,rfl⟩
 rw [← hL] at hkl
 have HLL:=Aside0.mk hL
 have hl24:L.length ≤ 24:=by have:=HN.out;omega
 clear hL hkl
 go_enter Try.func52,Try.ntmps52
 go_wp2_with (first|((with_reducible refine gate_builtin (b:=.append) (xs:=#[.tmp 43,.tmp 45]) rfl ?_);at_builtin;refine Kd.R_append (Kd.int .i64) (w0:=w0) w0.heap.size rfl (.tmp 43) (.tmp 45) 22 3 (.int .i64 0) 8 rfl Try.underlying22 infoI rfl (by decide) (by omega) v out a [.int .i64 a] (fun _=>True) (fun _=>False) rfl rfl ?aP (fun _ hk=>hk.elim) ?aF ?aO ?aB ?aS ?aL ?_;(case aP=>exact rfl);(case aB=>exact HW.out.below);(case aF=>exact (fun _ _=>trivial));(case aO=>exact HW.out.own);(case aS=>exact HW.out.below.size);(case aL=>have:=HL.out;omega);intro v1 w1 ho hb hg hat;rw [← HY.out] at ho;obtain ⟨Av,cv,ev⟩:=Kd.R_slice ho;subst ev;obtain ⟨hb1,hW2,hF⟩:=HW.out.push ho hb hg hat;clear ho hb hg hat;have hc3' : w1.cell? ⟨g,3,none⟩ = some v:=(blk_cell hb1 3).trans rfl;have hf3':=blk_frozen hb1 3;clear hb1;have hd0:(w1.setCell ⟨g,3,none⟩ (.slice Av y.length cv)).cell? ⟨g,0,none⟩ = some (.slice (some ad) lK.length cK):=(blk_cell hW2.blk 0).trans rfl;have hd1:(w1.setCell ⟨g,3,none⟩ (.slice Av y.length cv)).cell? ⟨g,1,none⟩ = some (.slice AP lP.length cP):=(blk_cell hW2.blk 1).trans rfl;have HW2:=Aside0.mk hW2;clear hW2;have HF:=Aside0.mk hF;clear hF)|(go_at_call 25;(with_reducible refine (q29.calls k _ _ lK _ _ lP a _ _ ?s1 ?s2 ?s3 ?s4 HK.out).mono ?_);(case s1=>exact Kd.C_below hK HW2.out.below);(case s2=>exact hcK);(case s3=>exact Kd.C_below hP HW2.out.below);(case s4=>exact hcP);rintro e w3 ⟨vk,rfl,hok,hb3⟩;rw [← HLL.out] at hok;obtain ⟨Ak,ck,ek⟩:=Kd.R_slice hok;subst ek;have HOK:=Aside0.mk hok;clear hok;have HB3:=Aside0.mk hb3;clear hb3))
 go_loopg [5,56] L.length (fun kq v5 v56 w'=>∃ (xi:Int) (v' : Value),v56 = .int .i64 xi ∧ Aside0 (0 ≤ xi ∧ xi + kq = L.length) ∧ Aside0 (WW w0 w' g (.slice (some ad) lK.length cK) (.slice AP lP.length cP) (.slice AQ lQ.length cQ) v' (y ++ (L.take xi.toNat).flatMap F)) ∧ Aside0 (Fr w3 w' g (.slice Av y.length cv) v'))
 case atStart=>exact ⟨0,_,rfl,⟨by omega,by omega⟩,⟨by simpa using HW2.out.step HB3.out⟩,⟨Fr.refl _ _ _⟩⟩
 case round =>
  obtain ⟨xi,v',rfl,HX,HW3,HF3⟩:=hrel
  cases gk with
  | zero =>
   have c1:decide (xi < (L.length:Int)) = false:=decide_eq_false (by have:=HX.out;omega)
   have hdone:y ++ (L.take xi.toNat).flatMap F = y ++ L.flatMap F:=by rw [List.take_of_length_le (by have:=HX.out;omega)]
   have HD:=Aside0.mk hdone
   clear hdone
   go_wp2
   refine bodyPost_ret (v:=.tuple #[]) (by simp [results,Try.results52,go_sem]) rfl ?_
   rw [← HLL.out,← HD.out]
   exact ⟨rfl,v',HW3.out,(HF.out.trans (Fr.of_below HB3.out g _)).trans HF3.out⟩
  | succ k1 =>
   have c0:=eq_true HX.out.1
   have hlt:xi < (L.length:Int):=by have:=HX.out;omega
   have c1:=eq_true hlt
   have c2:decide (xi < (L.length:Int)) = true:=decide_eq_true hlt
   have hr:=row_after HOK.out HW2.out.lt (Kd.R_lt HW2.out.own) HF3.out
   obtain ⟨adk,ek,hxk⟩:=Kd.at_int (Kd.R_reads' hr).2.2 xi HX.out.1 (by omega)
   subst ek
   clear hr hlt
   have hmem:rd L xi ∈ kids lP a:=by
    rw [← HLL.out]
    have:=HX.out
    unfold rd
    rw [List.getD_eq_getElem?_getD,List.getElem?_eq_getElem (by omega)];exact List.getElem_mem _
   have hft:(L.take (xi + 1).toNat).flatMap F = (L.take xi.toNat).flatMap F ++ F (rd L xi):=by
    have:=HX.out
    rw [show (xi + 1).toNat = xi.toNat + 1 by omega,flat_take (by omega),show ((xi.toNat:Nat):Int) = xi by omega]
   have hbd:(y ++ (L.take xi.toNat).flatMap F ++ F (rd L xi)).length < 17592186044416:=by
    rw [List.append_assoc,← hft,List.length_append]
    have:=flat_le (F:=F) (L:=L) (xi + 1).toNat
    have:=HLY.out
    rw [← HLL.out] at this
    omega
   have HM:=Aside0.mk hmem
   have HFT:=Aside0.mk hft
   have HBD:=Aside0.mk hbd
   clear hmem hft hbd
   have hw:wrap64 (xi + 1) = xi + 1:=by have:=HX.out;exact w64 (by omega) (by omega)
   have HWR:=Aside0.mk hw
   clear hw
   go_wp2_with (go_at_call 52;(with_reducible refine (HH.out _ HM.out _ _ _ HW3.out HBD.out).mono ?_);rintro e w4 ⟨rfl,v4,hW4,hF4⟩;have HW4:=Aside0.mk hW4;have HF4:=Aside0.mk hF4;clear hW4 hF4)
   go_roundg k1
   case measure=>have:=HX.out;omega
   case rel=>exact ⟨wrap64 (xi + 1),v4,oE,⟨by rw [HWR.out];have:=HX.out;omega⟩,⟨by rw [HWR.out,HFT.out,← List.append_assoc];exact HW4.out⟩,⟨HF3.out.trans HF4.out⟩⟩
theorem in_solid {w0:World} {AK AP AQ:Option Addr} {cK cP cQ:Nat} {lK lP lQ:List Int} {g:Nat}
  (hK:Kd.C (Kd.int .i64) w0 AK lK.length lK) (hcK:lK.length ≤ cK) (hP:Kd.C (Kd.int .i64) w0 AP lP.length lP) (hcP:lP.length ≤ cP) (hO:Ok lK lP) :
  ∀ (f:Nat) (a:Int),0 ≤ a → a < lK.length → (lK.length:Int) - a ≤ f → solidB (rd lK a) = true → ∀ (w:World) (v:Value) (out:List Int),
  WW w0 w g (.slice AK lK.length cK) (.slice AP lP.length cP) (.slice AQ lQ.length cQ) v out → (out ++ inS lK lP f a).length < 17592186044416 →
  Calls Try.prog 52 #[.pointer (some ⟨g,0,none⟩),.int .i64 a] w (Put w0 w g (.slice AK lK.length cK) (.slice AP lP.length cP) (.slice AQ lQ.length cQ) v (out ++ inS lK lP f a)):=by
 have hn:=hO.1
 have h24:=hO.2.2.2.2
 intro f
 induction f with
 | zero=>intro a h0 h1 h2;omega
 | succ f ih =>
  intro a h0 h1 h2 hs w v out hW hl
  rw [inS] at hl ⊢
  rcases solidB_iff.1 hs with hk|hk
  ·rw [if_neg (by omega)] at hl ⊢
   rcases initial_cases lK lP a with hi|⟨hi,hsi⟩
   ·rw [hi,if_neg (by omega)] at hl ⊢
    exact in_leaf hK hcK hP hcP hn h24 a h0 h1 hk w v out hW hl hi
   ·obtain ⟨x0,x1,x2,_⟩:=hO.kid hi
    rw [if_pos x0] at hl ⊢
    have e:out ++ a :: inS lK lP f (initial lK lP a) = (out ++ [a]) ++ inS lK lP f (initial lK lP a):=by simp
    rw [e] at hl ⊢
    exact in_plain hK hcK hP hcP hn h24 a h0 h1 hk w v out hW (initial lK lP a) x0 _ (by rw [List.length_append] at hl;omega) rfl
     (fun w v hW=>ih (initial lK lP a) x0 x1 (by omega) hsi w v _ hW hl)
  ·rw [if_pos hk] at hl ⊢
   have e:out ++ a :: (kids lP a).flatMap (inS lK lP f) = (out ++ [a]) ++ (kids lP a).flatMap (inS lK lP f):=by simp
   rw [e] at hl ⊢
   refine in_all hK hcK hP hcP hn h24 a h0 h1 hk w v out hW (inS lK lP f) hl (fun x hx w v out hW hl=>?_)
   obtain ⟨x0,x1,x2,_,_,x3⟩:=hO.kid hx
   have:=(x3 (by omega)).2
   refine ih x x0 x1 (by omega) ?_ w v out hW hl
   rcases this with h|h
   ·exact h
   ·omega
end Go.Proofs.Ytnomeokicfpidaa.EW
namespace Go.Proofs.Ytnomeokicfpidaa.EW
open Go.RowKit Go.Proofs.YtnomeokicfpidaaW.PrintWords Go.Proofs.YtnomeokicfpidaaW.PrintLast Go.Proofs.YtnomeokicfpidaaW.PrintMore Go.Proofs.Ytnomeokicfpidaa.Q Go.Proofs.Ytnomeokicfpidaa.M
attribute [local go_sem] max2_int min2_int max_two min_two max_three min_three max_four min_four
set_option linter.unusedVariables false
set_option linter.unusedSimpArgs false
def wasS (Q:List Int) (a:Int):Int:=if a < 0 then 0 else if a ≥ (Q.length:Int) then 0 else rd Q a
set_option maxHeartbeats 4000000 in
set_option maxRecDepth 100000 in
theorem was_calls {w0:World} {sK sP:Value} {AQ:Option Addr} {cQ:Nat} {lQ:List Int} {g:Nat} (hQ:Kd.C (Kd.int .u32) w0 AQ lQ.length lQ) (hcQ:lQ.length ≤ cQ)
  (a:Int) (w:World) (v:Value) (out:List Int) (hW:WW w0 w g sK sP (.slice AQ lQ.length cQ) v out) :
  Calls Try.prog 60 #[.pointer (some ⟨g,0,none⟩),.int .i64 a] w fun e w'=>e = .returned (.int .u32 (wasS lQ a)) ∧ Drawn0 w w':=by
 have hu70:=Try.underlying70
 have hc2:w.cell? ⟨g,2,none⟩ = some (.slice AQ lQ.length cQ):=(blk_cell hW.blk 2).trans rfl
 have hb:=hW.below
 clear hW
 have HQ:=Aside0.mk hQ
 have HB:=Aside0.mk hb
 clear hQ hb
 by_cases c1:a < 0
 ·have e:wasS lQ a = 0:=by unfold wasS;rw [if_pos c1]
  rw [e]
  have t1:decide (a < 0) = true:=decide_eq_true c1
  clear c1 e
  go_enter Try.func60,Try.ntmps60
  go_wp2
  repeat (go_quiet (fail);try go_wp2)
  go_ret
  exact ⟨rfl,by repeat (first|exact Drawn0.refl _|apply Drawn0.step)⟩
 ·by_cases c2:a ≥ (lQ.length:Int)
  ·have e:wasS lQ a = 0:=by unfold wasS;rw [if_neg c1,if_pos c2]
   rw [e]
   have t1:decide (a < 0) = false:=decide_eq_false c1
   have t2:decide ((lQ.length:Int) ≤ a) = true:=decide_eq_true c2
   clear c1 c2 e
   go_enter Try.func60,Try.ntmps60
   go_wp2
   repeat (go_quiet (fail);try go_wp2)
   go_ret
   exact ⟨rfl,by repeat (first|exact Drawn0.refl _|apply Drawn0.step)⟩
  ·have e:wasS lQ a = rd lQ a:=by unfold wasS;rw [if_neg c1,if_neg c2]
   rw [e]
   have t1:decide (a < 0) = false:=decide_eq_false c1
   have t2:decide ((lQ.length:Int) ≤ a) = false:=decide_eq_false c2
   obtain ⟨ad,e',hx⟩:=Kd.at_int (Kd.C_below HQ.out HB.out) a (by omega) (by omega)
   subst e'
   have p0:=eq_true (show 0 ≤ a by omega)
   have p1:=eq_true (show a < (lQ.length:Int) by omega)
   clear c1 c2 e
   go_enter Try.func60,Try.ntmps60
   go_wp2
   repeat (go_quiet (fail);try go_wp2)
   go_ret
   exact ⟨rfl,by repeat (first|exact Drawn0.refl _|apply Drawn0.step)⟩
def backR (K P:List Int) (F:Int → List Int) (l:List Int) (up:Int) (deep:Bool):List Int :=
 if deep = true ∧ l ≠ [] then l else match l.find? (fun k=>decide (rd P k = up) && decide (rd K k ≤ 2)) with
  | some k=>F k
  | none=>if 0 ≤ initial K P up then F (initial K P up) else []
theorem find_none {p:Int → Bool} {l:List Int} (h:∀ j:Nat,j < l.length → p (l.getD j 0) = false):l.find? p = none:=by
 rw [List.find?_eq_none]
 intro x hx
 obtain ⟨j,hj,rfl⟩:=List.mem_iff_getElem.1 hx
 have:=h j hj
 rw [List.getD_eq_getElem?_getD,List.getElem?_eq_getElem hj] at this
 simpa using this
theorem find_at {p:Int → Bool}:∀ {l:List Int} {i:Nat},i < l.length → p (l.getD i 0) = true → (∀ j:Nat,j < i → p (l.getD j 0) = false) → l.find? p = some (l.getD i 0)
 | [],i,hi,_,_=>by simp at hi
 | x :: l,0,_,hp,_=>by
  have hp' : p x = true:=hp
  rw [List.find?_cons,hp'];rfl
 | x :: l,i + 1,hi,hp,hpre=>by
  have h0:p x = false:=hpre 0 (by omega)
  rw [List.find?_cons,h0]
  exact find_at (l:=l) (i:=i) (by simpa using hi) hp (fun j hj=>hpre (j + 1) (by omega))
set_option maxHeartbeats 8000000 in
set_option maxRecDepth 100000 in
theorem back_calls {w0:World} {AK AP AQ:Option Addr} {cK cP cQ:Nat} {lK lP lQ:List Int} {g:Nat}
  (hK:Kd.C (Kd.int .i64) w0 AK lK.length lK) (hcK:lK.length ≤ cK) (hP:Kd.C (Kd.int .i64) w0 AP lP.length lP) (hcP:lP.length ≤ cP) (hQ:Kd.C (Kd.int .u32) w0 AQ lQ.length lQ) (hcQ:lQ.length ≤ cQ)
  (hn:lP.length = lK.length) (h24:lK.length ≤ 24) (up:Int) (deep:Bool) (l:List Int) (hlr:∀ x ∈ l,0 ≤ x ∧ x < lK.length) (hl24:l.length ≤ 24) (hbel:∃ k,q26.f k lK lP (wasS lQ up) up = some l)
  (F:Int → List Int) (w:World) (v:Value) (out:List Int)
  (hW:WW w0 w g (.slice AK lK.length cK) (.slice AP lP.length cP) (.slice AQ lQ.length cQ) v out) (hl:(out ++ backR lK lP F l up deep).length < 17592186044416)
  (IH:∀ x:Int,0 ≤ x → x < lK.length → (rd lK x ≤ 2) → ∀ (w:World) (v:Value),WW w0 w g (.slice AK lK.length cK) (.slice AP lP.length cP) (.slice AQ lQ.length cQ) v out → (out ++ F x).length < 17592186044416 → Calls Try.prog 52 #[.pointer (some ⟨g,0,none⟩),.int .i64 x] w (Put w0 w g (.slice AK lK.length cK) (.slice AP lP.length cP) (.slice AQ lQ.length cQ) v (out ++ F x))) :
  Calls Try.prog 59 #[.pointer (some ⟨g,0,none⟩),.int .i64 up,.bool deep] w (Put w0 w g (.slice AK lK.length cK) (.slice AP lP.length cP) (.slice AQ lQ.length cQ) v (out ++ backR lK lP F l up deep)):=by
 obtain ⟨kb,hkb⟩:=hbel
 have hu24:=Try.underlying24
 have hu70:=Try.underlying70
 have hc0:w.cell? ⟨g,0,none⟩ = some (.slice AK lK.length cK):=(blk_cell hW.blk 0).trans rfl
 have hc1:w.cell? ⟨g,1,none⟩ = some (.slice AP lP.length cP):=(blk_cell hW.blk 1).trans rfl
 have HKB:=Aside0.mk hkb
 clear hkb
 have HN:=Aside0.mk hn
 clear hn
 have hWd:=hW.step (below_drew (Below.refl w.heap.size w))
 have hFd:=Fr.of_below (below_drew (Below.refl w.heap.size w)) g v
 go_enter Try.func59,Try.ntmps59
 go_wp2
 go_region_held3 (fun w'=>w'.cell? ⟨g,0,none⟩ = some (.slice AK lK.length cK) ∧ w'.cell? ⟨g,1,none⟩ = some (.slice AP lP.length cP) ∧ WW w0 w' g (.slice AK lK.length cK) (.slice AP lP.length cP) (.slice AQ lQ.length cQ) v out ∧ Fr w w' g v v)
  (first|exact ⟨(blk_cell hWn.blk 0).trans rfl,(blk_cell hWn.blk 1).trans rfl,hWn,hFn⟩|exact ⟨by assumption,by assumption,by assumption,by assumption⟩)
  (first
   | (go_at_call 60;(with_reducible refine (was_calls (sK:=.slice AK lK.length cK) (sP:=.slice AP lP.length cP) hQ hcQ up _ v out ?w1).mono ?_);(case w1=>assumption);rintro e w5 ⟨rfl,hd⟩;have hWn:=WW.step (by assumption) hd.below;have hFn:=Fr.trans (by assumption) (Fr.of_below hd.below g v);clear hd)
   | (go_at_call 49;(with_reducible refine (q26.calls kb _ _ lK _ _ lP (wasS lQ up) up l _ ?b1 ?b2 ?b3 ?b4 HKB.out).mono ?_);(case b1=>exact Kd.C_below hK (WW.below (by assumption)));(case b2=>exact hcK);(case b3=>exact Kd.C_below hP (WW.below (by assumption)));(case b4=>exact hcP);rintro e w6 ⟨vl,rfl,hol,hbl⟩;have hWn:=WW.step (by assumption) hbl;have hFn:=Fr.trans (by assumption) (Fr.of_below hbl g v)))
 obtain ⟨Al,cl,el⟩:=Kd.R_slice hol
 subst el
 have HOL:=Aside0.mk hol
 have HWN:=Aside0.mk hWn
 have HFN:=Aside0.mk hFn
 clear hol hWn hFn
 have HC0:=(show w6.cell? ⟨g,0,none⟩ = some (.slice AK lK.length cK) from (blk_cell HWN.out.blk 0).trans rfl)
 have HC1:=(show w6.cell? ⟨g,1,none⟩ = some (.slice AP lP.length cP) from (blk_cell HWN.out.blk 1).trans rfl)
 have HC3:=(show w6.cell? ⟨g,3,none⟩ = some v from (blk_cell HWN.out.blk 3).trans rfl)
 by_cases hA:deep = true ∧ l ≠ []
 ·obtain ⟨hd1,hd2⟩:=hA
  subst hd1
  have hb:backR lK lP F l up true = l:=by unfold backR;rw [if_pos ⟨rfl,hd2⟩]
  rw [hb] at hl ⊢
  rw [List.length_append] at hl
  have HL:=Aside0.mk hl
  obtain ⟨y,hy⟩:∃ y:List Int,y = out ++ l:=⟨_,rfl⟩
  rw [← hy]
  have HY:=Aside0.mk hy
  have hpos:0 < l.length:=List.length_pos_iff.2 hd2
  have t1:decide (0 < (l.length:Int)) = true:=decide_eq_true (by omega)
  have t2:decide (0 < l.length) = true:=decide_eq_true hpos
  have HBK:=Aside0.mk hb
  clear hl hy hb hd2 hpos IH
  go_wp2_with (first|((with_reducible refine gate_builtin (b:=.append) (xs:=#[.tmp 29,.tmp 30]) rfl ?_);at_builtin;refine Kd.R_append_rows (Kd.int .i64) (w0:=w0) w0.heap.size rfl (.tmp 29) (.tmp 30) 22 3 (.int .i64 0) 8 rfl Try.underlying22 infoI rfl (by decide) (by omega) v out l _ _ _ (fun _=>True) (fun _=>False) rfl rfl ?aO ?aR (fun _ _ h=>h) (fun _ h=>h.elim) ?aF ?aB ?aS ?aL ?_;(case aO=>exact HWN.out.own);(case aR=>exact (Kd.R_reads' HOL.out).2.2);(case aF=>exact (fun _ _=>trivial));(case aB=>exact HWN.out.below);(case aS=>exact HWN.out.below.size);(case aL=>have:=HL.out;omega);intro v1 w1 ho hb hg hat;rw [← HY.out] at ho;obtain ⟨Av,cv,ev⟩:=Kd.R_slice ho;subst ev;obtain ⟨hb1,hW2,hF⟩:=HWN.out.push ho hb hg hat;clear ho hb hg hat;have hc3' : w1.cell? ⟨g,3,none⟩ = some v:=(blk_cell hb1 3).trans rfl;have hf3':=blk_frozen hb1 3;clear hb1;have HW2:=Aside0.mk hW2;clear hW2;have HF:=Aside0.mk hF;clear hF))
  refine bodyPost_ret (v:=.tuple #[]) (by simp [results,Try.results59,go_sem]) rfl ?_
  rw [HBK.out,← HY.out]
  exact ⟨rfl,_,HW2.out,HFN.out.trans HF.out⟩
 ·obtain ⟨p,hp⟩:∃ p:Int → Bool,p = fun k=>decide (rd lP k = up) && decide (rd lK k ≤ 2):=⟨_,rfl⟩
  have hb:backR lK lP F l up deep = match l.find? p with
   | some k=>F k
   | none=>if 0 ≤ initial lK lP up then F (initial lK lP up) else []:=by unfold backR;rw [if_neg hA,hp]
  have HBK:=Aside0.mk hb
  have HPP:=Aside0.mk hp
  have HL:=Aside0.mk hl
  have HH:=Aside0.mk IH
  have HLR:=Aside0.mk hlr
  clear hb hp hl IH hlr
  have hor:deep = false ∨ l = []:=by
   cases deep with
   | false=>exact .inl rfl
   | true=>exact .inr (Classical.byContradiction fun h=>hA ⟨rfl,h⟩)
  obtain ⟨kI,hkI⟩:=(Initial_f lK lP up HN.out (by have:=HN.out;omega)).rounds
  have HKI:=Aside0.mk hkI
  clear hkI hA
  obtain ⟨b0,hb0⟩:∃ b0:Bool,decide (0 < l.length) = b0:=⟨_,rfl⟩
  have hb0' : decide (0 < (l.length:Int)) = b0:=by rw [← hb0];congr 1;exact propext (by omega)
  have hbf:b0 = false ∨ deep = false:=by
   rcases hor with h|h
   ·exact .inr h
   ·left;rw [← hb0,h];rfl
  clear hor
  have fin:∀ (W:World),W = w6 → p = p → True:=fun _ _ _=>trivial
  clear fin
  obtain ⟨b1,hb1⟩:∃ b1:Bool,b1 = false ∧ (b0 = false ∨ (b0 = true ∧ deep = false)):=⟨false,rfl,by cases b0 <;> simp_all⟩
  rcases hb1.2 with hz|⟨hz,hz'⟩
  all_goals
   first|subst hz'|skip
   subst hz
   clear hb1 hbf
   go_wp2
   go_loopg [8,36] l.length (fun kq v8 v36 w'=>∃ (xi:Int),v36 = .int .i64 xi ∧ Aside0 (w' = w6 ∧ 0 ≤ xi ∧ xi + kq = l.length ∧ ∀ j:Nat,j < xi.toNat → p (l.getD j 0) = false))
   case atStart=>exact ⟨0,rfl,⟨rfl,by omega,by omega,fun j hj=>by simp at hj⟩⟩
   case round =>
    obtain ⟨xi,rfl,HX⟩:=hrel
    obtain ⟨ew,hx0,hxk,hpre⟩:=HX.out
    subst ew
    have HPRE:=Aside0.mk hpre
    clear hpre HX
    cases gk with
    | zero =>
     have c1:decide (xi < (l.length:Int)) = false:=decide_eq_false (by omega)
     have hnone:l.find? p = none:=find_none (fun j hj=>HPRE.out j (by omega))
     obtain ⟨x,hx⟩:∃ x,initial lK lP up = x:=⟨_,rfl⟩
     have hbx:=HBK.out
     rw [hnone] at hbx
     simp only [hx] at hbx
     have HI:=Aside0.mk hx
     clear hnone hx0 hxk
     by_cases hxp:0 ≤ x
     ·rw [if_pos hxp] at hbx
      have HBX:=Aside0.mk hbx
      have tx:decide (0 ≤ x) = true:=decide_eq_true hxp
      have hsol:0 ≤ x ∧ x < lK.length ∧ rd lK x ≤ 2:=by
       rcases initial_cases lK lP up with h|⟨h,h'⟩
       ·rw [HI.out] at h;omega
       ·rw [HI.out] at h h'
        have:=kids_in HN.out up x h
        have:=solidB_iff.1 h'
        exact ⟨by omega,by omega,by omega⟩
      have HS:=Aside0.mk hsol
      have hlx:(out ++ F x).length < 17592186044416:=by rw [← hbx];exact HL.out
      have HLX:=Aside0.mk hlx
      clear hbx hx hxp hsol hlx
      go_wp2_with (first|(go_at_call 30;(with_reducible refine (q18.calls kI _ _ lK _ _ lP up _ _ ?s1 ?s2 ?s3 ?s4 HKI.out).mono ?_);(case s1=>exact Kd.C_below hK HWN.out.below);(case s2=>exact hcK);(case s3=>exact Kd.C_below hP HWN.out.below);(case s4=>exact hcP);rintro e w3 ⟨rfl,hb3⟩;rw [HI.out];have HB3:=Aside0.mk hb3;clear hb3)|(go_at_call 52;(with_reducible refine (HH.out x HS.out.1 HS.out.2.1 HS.out.2.2 w3 _ (HWN.out.step HB3.out) HLX.out).mono ?_);rintro e w4 ⟨rfl,v',hW4,hF4⟩))
      go_end0
      rw [HBX.out]
      exact ⟨rfl,v',hW4,(HFN.out.trans (Fr.of_below HB3.out g _)).trans hF4⟩
     ·rw [if_neg hxp] at hbx
      have HBX:=Aside0.mk hbx
      have tx:decide (0 ≤ x) = false:=decide_eq_false hxp
      clear hbx hx hxp
      go_wp2_with (first|(go_at_call 30;(with_reducible refine (q18.calls kI _ _ lK _ _ lP up _ _ ?s1 ?s2 ?s3 ?s4 HKI.out).mono ?_);(case s1=>exact Kd.C_below hK HWN.out.below);(case s2=>exact hcK);(case s3=>exact Kd.C_below hP HWN.out.below);(case s4=>exact hcP);rintro e w3 ⟨rfl,hb3⟩;rw [HI.out];have HB3:=Aside0.mk hb3;clear hb3))
      go_end0
      rw [HBX.out,List.append_nil]
      exact ⟨rfl,v,HWN.out.step HB3.out,HFN.out.trans (Fr.of_below HB3.out g _)⟩
    | succ k1 =>
     have hlt:xi < (l.length:Int):=by omega
     have c2:decide (xi < (l.length:Int)) = true:=decide_eq_true hlt
     have c0:=eq_true hx0
     have c1:=eq_true hlt
     obtain ⟨adl,el,hxl⟩:=Kd.at_int (Kd.R_reads' HOL.out).2.2 xi hx0 (by omega)
     subst el
     have hget:rd l xi = l.getD xi.toNat 0:=rfl
     have hmem:rd l xi ∈ l:=by
      rw [hget,List.getD_eq_getElem?_getD,List.getElem?_eq_getElem (by omega)];exact List.getElem_mem _
     obtain ⟨x,hx⟩:∃ x,rd l xi = x:=⟨_,rfl⟩
     rw [hx] at hxl hmem hget
     obtain ⟨r0,r1⟩:=HLR.out x hmem
     obtain ⟨adK,eK,hxK⟩:=Kd.at_int (Kd.C_below hK HWN.out.below) x r0 (by omega)
     obtain ⟨adP,eP,hxP⟩:=Kd.at_int (Kd.C_below hP HWN.out.below) x r0 (by have:=HN.out;omega)
     subst eK
     subst eP
     have q0:=eq_true r0
     have q1:=eq_true r1
     have q2:=eq_true (show x < (lP.length:Int) by have:=HN.out;omega)
     have HX:=Aside0.mk hx
     have HG:=Aside0.mk hget
     have HR:=zk (And.intro r0 r1)
     have HXK:=zk (And.intro hx0 hxk)
     clear hx hget hmem hlt r0 r1 hx0 hxk
     have hw:wrap64 (xi + 1) = xi + 1:=by have:=HXK.out;exact w64 (by omega) (by omega)
     have HWR:=Aside0.mk hw
     clear hw
     by_cases hpx:p x = true
     ·have hpp:=hpx
      rw [HPP.out] at hpp
      simp only [Bool.and_eq_true,decide_eq_true_eq] at hpp
      have tP:(rd lP x == up) = true:=beq_iff_eq.mpr hpp.1
      have tK:decide (rd lK x ≤ 2) = true:=decide_eq_true hpp.2
      have hfind:l.find? p = some x:=by
       have:=HXK.out
       rw [HG.out]
       exact find_at (by omega) (by rw [← HG.out];exact hpx) HPRE.out
      have hbx:=HBK.out
      rw [hfind] at hbx
      have HBX:=Aside0.mk hbx
      have hlx:(out ++ F x).length < 17592186044416:=by have:=HL.out;rw [HBK.out,hfind] at this;exact this
      have HLX:=Aside0.mk hlx
      have HS:=Aside0.mk hpp.2
      clear hpp hpx hfind hbx hlx
      go_wp2_with (first|(go_at_call 52;(with_reducible refine (HH.out x HR.out.1 HR.out.2 HS.out _ _ HWN.out HLX.out).mono ?_);rintro e w4 ⟨rfl,v',hW4,hF4⟩))
      refine bodyPost_ret (v:=.tuple #[]) (by simp [results,Try.results59,go_sem]) rfl ?_
      rw [HBX.out]
      exact ⟨rfl,v',hW4,HFN.out.trans hF4⟩
     ·have hpf:=eq_false_of_ne_true hpx
      have hnext:∀ j:Nat,j < (xi + 1).toNat → p (l.getD j 0) = false:=by
       intro j hj
       have:=HXK.out
       by_cases e:j = xi.toNat
       ·rw [e,← HG.out];exact hpf
       ·exact HPRE.out j (by omega)
      have HNX:=Aside0.mk hnext
      have hpp:=hpf
      rw [HPP.out] at hpp
      simp only [Bool.and_eq_false_iff,decide_eq_false_iff_not] at hpp
      clear hpx hpf hnext
      by_cases hP1:rd lP x = up
      ·have tP:(rd lP x == up) = true:=beq_iff_eq.mpr hP1
       have tK:decide (rd lK x ≤ 2) = false:=decide_eq_false (hpp.resolve_left (fun h=>h hP1))
       clear hpp hP1
       go_wp2
       go_roundg k1
       case measure=>have:=HXK.out;omega
       case rel=>exact ⟨wrap64 (xi + 1),oE,⟨rfl,by rw [HWR.out];have:=HXK.out;omega,by rw [HWR.out];have:=HXK.out;omega,by rw [HWR.out];exact HNX.out⟩⟩
      ·have tP:(rd lP x == up) = false:=beq_eq_false_iff_ne.mpr hP1
       clear hpp hP1
       go_wp2
       go_roundg k1
       case measure=>have:=HXK.out;omega
       case rel=>exact ⟨wrap64 (xi + 1),oE,⟨rfl,by rw [HWR.out];have:=HXK.out;omega,by rw [HWR.out];have:=HXK.out;omega,by rw [HWR.out];exact HNX.out⟩⟩
end Go.Proofs.Ytnomeokicfpidaa.EW
namespace Go.Proofs.Ytnomeokicfpidaa.M
open Go.RowKit Go.Proofs.YtnomeokicfpidaaW.PrintWords Go.Proofs.YtnomeokicfpidaaW.PrintLast Go.Proofs.YtnomeokicfpidaaW.PrintMore
set_option linter.unusedVariables false
def Tree (P:List Int):Prop:=∀ j:Nat,j < P.length → -1 ≤ P.getD j 0 ∧ P.getD j 0 < j
theorem Tree.rdP {P:List Int} (h:Tree P) {a:Int} (h0:0 ≤ a) (h1:a < P.length):-1 ≤ rd P a ∧ rd P a < a:=by
 have:=h a.toNat (by omega)
 unfold rd;omega
inductive Un (P:List Int):Int → Int → Prop
 | refl (a:Int):Un P a a
 | up {a b:Int} (h0:0 ≤ a) (h1:a < P.length) (h:Un P (rd P a) b):Un P a b
theorem Un.le {P:List Int} (hT:Tree P) {a b:Int} (h:Un P a b):b ≤ a:=by
 induction h with
 | refl=>exact Int.le_refl _
 | up h0 h1 _ ih=>have:=hT.rdP h0 h1;omega
theorem Un.trans {P:List Int} {a b c:Int} (h:Un P a b) (k:Un P b c):Un P a c:=by
 induction h with
 | refl=>exact k
 | up h0 h1 _ ih=>exact .up h0 h1 (ih k)
theorem Un.cases' {P:List Int} {a b:Int} (h:Un P a b) (hne:a ≠ b):0 ≤ a ∧ a < P.length ∧ Un P (rd P a) b:=by
 cases h with
 | refl=>exact absurd rfl hne
 | up h0 h1 h=>exact ⟨h0,h1,h⟩
theorem Un.lt {P:List Int} (hT:Tree P) {a b:Int} (h:Un P a b) (hne:a ≠ b):b < a:=by
 obtain ⟨h0,h1,h2⟩:=h.cases' hne
 have:=h2.le hT
 have:=hT.rdP h0 h1;omega
theorem Un.lin {P:List Int} {a b c:Int} (h:Un P a b) (k:Un P a c):Un P b c ∨ Un P c b:=by
 induction h with
 | refl=>exact .inl k
 | @up a b h0 h1 h ih =>
  by_cases e:a = c
  ·subst e;exact .inr (.up h0 h1 h)
  ·exact ih (k.cases' e).2.2
theorem Un.kid {P:List Int} {a b:Int} (h:Un P a b) (hne:a ≠ b):∃ k:Nat,k < P.length ∧ P.getD k 0 = b ∧ Un P a (k:Int):=by
 induction h with
 | refl=>exact absurd rfl hne
 | @up a b h0 h1 h ih =>
  by_cases e:rd P a = b
  ·exact ⟨a.toNat,by omega,e,by rw [show ((a.toNat:Nat):Int) = a by omega];exact .refl _⟩
  ·obtain ⟨k,x,y,z⟩:=ih e
   exact ⟨k,x,y,.up h0 h1 z⟩
theorem Un.sib {P:List Int} (hT:Tree P) {a p:Int} {k m:Nat} (hk:k < P.length) (hm:m < P.length) (ek:P.getD k 0 = p) (em:P.getD m 0 = p) (h:Un P a (k:Int)) (h' : Un P a (m:Int)):k = m:=by
 have key:∀ {x y:Nat},x < P.length → y < P.length → P.getD x 0 = p → P.getD y 0 = p → Un P (x:Int) (y:Int) → x = y:=by
  intro x y hx hy ex ey h
  by_cases e:(x:Int) = (y:Int)
  ·omega
  ·obtain ⟨_,_,h2⟩:=h.cases' e
   rw [rd_nat,ex] at h2
   have:=h2.le hT
   have:=hT y hy
   omega
 rcases h.lin h' with h|h
 ·exact key hk hm ek em h
 ·exact (key hm hk em ek h).symm
theorem Un.top {P:List Int} (hT:Tree P):∀ (n:Nat) (a:Int),a < n → -1 ≤ a → a < P.length → Un P a (-1):=by
 intro n
 induction n with
 | zero =>
  intro a h1 h2 h3
  obtain rfl:a = -1:=by omega
  exact .refl _
 | succ n ih =>
  intro a h1 h2 h3
  by_cases e:a = -1
  ·subst e;exact .refl _
  ·have:=hT.rdP (a:=a) (by omega) h3
   exact .up (by omega) h3 (ih _ (by omega) this.1 (by omega))
theorem Un.par {P:List Int} {k:Nat} (hk:k < P.length):Un P (k:Int) (P.getD k 0):=.up (by omega) (by omega) (by rw [rd_nat];exact .refl _)
end Go.Proofs.Ytnomeokicfpidaa.M
namespace Go.Proofs.Ytnomeokicfpidaa.M
open Go.RowKit Go.Proofs.YtnomeokicfpidaaW.PrintWords Go.Proofs.YtnomeokicfpidaaW.PrintLast Go.Proofs.YtnomeokicfpidaaW.PrintMore Go.Proofs.Ytnomeokicfpidaa.Q
set_option linter.unusedVariables false
def unF (P:List Int):Nat → Int → Int → Bool
 | 0,a,b=>a == b
 | f + 1,a,b=>if a = b then true else if 0 ≤ a ∧ a < P.length then unF P f (rd P a) b else false
def unB (P:List Int) (a b:Int):Bool:=unF P (P.length + 1) a b
theorem unF_iff {P:List Int} (hT:Tree P):∀ (f:Nat) (a b:Int),-1 ≤ a → a < f → a < P.length → (unF P f a b = true ↔ Un P a b):=by
 intro f
 induction f with
 | zero =>
  intro a b h0 h1 h2
  obtain rfl:a = -1:=by omega
  rw [unF,beq_iff_eq]
  constructor
  ·rintro rfl;exact .refl _
  ·intro h
   exact Classical.byContradiction fun e=>by have:=(h.cases' e).1;omega
 | succ f ih =>
  intro a b h0 h1 h2
  rw [unF]
  by_cases e:a = b
  ·rw [if_pos e];subst e;exact ⟨fun _=>.refl _,fun _=>rfl⟩
  ·rw [if_neg e]
   by_cases g:0 ≤ a ∧ a < P.length
   ·have:=hT.rdP g.1 g.2
    rw [if_pos g,ih (rd P a) b (by omega) (by omega) (by omega)]
    exact ⟨fun h=>.up g.1 g.2 h,fun h=>(h.cases' e).2.2⟩
   ·rw [if_neg g]
    exact ⟨fun h=>absurd h (by simp),fun h=>absurd ⟨(h.cases' e).1,(h.cases' e).2.1⟩ g⟩
theorem unB_iff {P:List Int} (hT:Tree P) {a b:Int} (h0:-1 ≤ a) (h1:a < P.length):unB P a b = true ↔ Un P a b:=unF_iff hT _ a b h0 (by omega) h1
theorem unB_step {P:List Int} (hT:Tree P) {a b:Int} (h0:0 ≤ a) (h1:a < P.length) (hne:a ≠ b):unB P a b = unB P (rd P a) b:=by
 have:=hT.rdP h0 h1
 rw [Bool.eq_iff_iff,unB_iff hT (by omega) h1,unB_iff hT (by omega) (by omega)]
 exact ⟨fun h=>(h.cases' hne).2.2,fun h=>.up h0 h1 h⟩
theorem unB_stop {P:List Int} (hT:Tree P) {a b:Int} (h0:-1 ≤ a) (h1:a < P.length) (h:a ≤ b):unB P a b = (a == b):=by
 rw [Bool.eq_iff_iff,unB_iff hT h0 h1,beq_iff_eq]
 constructor
 ·intro k;have:=k.le hT;omega
 ·rintro rfl;exact .refl _
theorem Ok.tree {K P:List Int} (h:Ok K P):Tree P:=fun j hj=>by
 obtain ⟨_,_,b1,b2,_⟩:=okS_iff.1 (h.2.2.1 j (by have:=h.1;omega))
 exact ⟨b1,b2⟩
theorem Under_l0 {K P:List Int} (hT:Tree P) (b:Int) (hb:-1 ≤ b):∀ (d:Nat) (a:Int),-1 ≤ a → a < P.length → a < d → Ev (fun k=>q27.l0 k a b K P) (unB P a b):=by
 intro d
 induction d with
 | zero =>
  intro a h0 h1 h2
  refine Ev.ret (fun k=>?_)
  simp only [q27.l0]
  rw [if_neg (by omega),unB_stop hT h0 h1 (by omega)]
 | succ d ih =>
  intro a h0 h1 h2
  by_cases g:a > b
  ·have:=hT.rdP (a:=a) (by omega) h1
   rw [unB_step hT (by omega) h1 (by omega)]
   refine Ev.st (ih (rd P a) (by omega) (by omega) (by omega)) (fun k=>?_)
   simp only [q27.l0]
   rw [if_pos g,if_pos (by omega),if_pos h1]
  ·refine Ev.ret (fun k=>?_)
   simp only [q27.l0]
   rw [if_neg g,unB_stop hT h0 h1 (by omega)]
theorem Under_f {K P:List Int} (hn:P.length = K.length) (hT:Tree P) {a b:Int} (h0:0 ≤ a) (h1:a < K.length) (b0:-1 ≤ b) (b1:b < K.length):Ev (fun k=>q27.f k K P a b) (unB P a b):=by
 have l0:=Under_l0 (K:=K) hT b b0 (K.length) a (by omega) (by omega) (by omega)
 have hj:Ev (fun k=>q27.j0 k a b false K P) (unB P a b):=by
  refine Ev.st l0 (fun k=>?_)
  simp only [q27.j0];rw [if_neg (by simp)]
 refine Ev.cg hj (fun k=>?_)
 unfold q27.f q16.f
 rw [if_pos h0,Option.bind_some,if_pos (by simpa using h1)]
 by_cases e:b = -1
 ·rw [if_pos e]
 ·rw [if_neg e,if_pos (by omega),Option.bind_some,decide_eq_true b1];rfl
theorem rUnder_l0 {K P:List Int} (hT:Tree P) (b:Int) (hb:-1 ≤ b):∀ (d:Nat) (a:Int),-1 ≤ a → a < P.length → a < d → Ev (fun k=>q1.l0 k a b K P) (unB P a b):=by
 intro d
 induction d with
 | zero =>
  intro a h0 h1 h2
  refine Ev.ret (fun k=>?_)
  simp only [q1.l0]
  rw [if_neg (by omega),unB_stop hT h0 h1 (by omega)]
 | succ d ih =>
  intro a h0 h1 h2
  by_cases g:a ≥ 0
  ·have:=hT.rdP (a:=a) (by omega) h1
   by_cases e:a = b
   ·refine Ev.ret (fun k=>?_)
    simp only [q1.l0]
    rw [if_pos g,if_pos e,unB_stop hT h0 h1 (by omega)]
   ·rw [unB_step hT (by omega) h1 e]
    refine Ev.st (ih (rd P a) (by omega) (by omega) (by omega)) (fun k=>?_)
    simp only [q1.l0]
    rw [if_pos g,if_neg e,if_pos (by omega),if_pos h1]
  ·refine Ev.ret (fun k=>?_)
   simp only [q1.l0]
   rw [if_neg g,unB_stop hT h0 h1 (by omega)]
theorem rUnder_f {K P:List Int} (hn:P.length = K.length) (hT:Tree P) {a b:Int} (h0:0 ≤ a) (h1:a < K.length) (b0:-1 ≤ b) (b1:b < K.length):Ev (fun k=>q1.f k K P a b) (unB P a b):=by
 have l0:=rUnder_l0 (K:=K) hT b b0 (K.length) a (by omega) (by omega) (by omega)
 have hj:Ev (fun k=>q1.j0 k a b false K P) (unB P a b):=by
  refine Ev.st l0 (fun k=>?_)
  simp only [q1.j0];rw [if_neg (by simp)]
 refine Ev.cg hj (fun k=>?_)
 unfold q1.f q4.f
 rw [if_pos h0,Option.bind_some,if_pos (by simpa using h1),if_neg (by omega),decide_eq_false (by omega)]
def inB (s:Int) (i:Int):Bool:=(Go.bits .and .u32 (shr .u32 s i) 1) == 1
def belowFrom (P:List Int) (s a:Int) (i d:Nat):List Int:=((List.range' i d).filter (fun j:Nat=>decide (¬ (j:Int) = a) && (inB s (j:Int) && unB P (j:Int) a))).map (fun j:Nat=>(j:Int))
def belowL (K P:List Int) (s a:Int):List Int:=belowFrom P s a 0 K.length
theorem belowFrom_succ (P:List Int) (s a:Int) (i d:Nat):belowFrom P s a i (d + 1) = if (i:Int) ≠ a ∧ inB s i = true ∧ unB P i a = true then (i:Int) :: belowFrom P s a (i + 1) d else belowFrom P s a (i + 1) d:=by
 unfold belowFrom
 rw [List.range'_succ,List.filter_cons]
 by_cases h:(i:Int) ≠ a ∧ inB s i = true ∧ unB P i a = true
 ·rw [if_pos h,if_pos (by simp [h.1,h.2.1,h.2.2])];rfl
 ·rw [if_neg h,if_neg (by simpa using h)]
theorem below_l0 {K P:List Int} (hn:P.length = K.length) (hT:Tree P) (h24:K.length < 1000000) (s a:Int) (a0:-1 ≤ a) (a1:a < K.length):∀ (d i:Nat) (acc:List Int),i + d = K.length → acc.length ≤ i →
  Ev (fun k=>q26.l0 k s a acc (K.length:Int) (i:Int) K P) (acc ++ belowFrom P s a i d):=by
 intro d
 induction d with
 | zero =>
  intro i acc hi ha
  refine Ev.ret (fun k=>?_)
  simp only [q26.l0]
  rw [if_neg (by omega)]
  simp [belowFrom]
 | succ d ih =>
  intro i acc hi ha
  rw [belowFrom_succ]
  have hw:=w1 i (by omega)
  by_cases e:(i:Int) = a
  ·rw [if_neg (by simp [e])]
   refine Ev.st (ih (i + 1) acc (by omega) (by omega)) (fun k=>?_)
   simp only [q26.l0]
   rw [if_pos (by omega),if_pos e,hw]
  ·have hin:q31.f s (i:Int) = some (inB s i):=by
    unfold q31.f inB;rw [if_pos (by omega),if_pos (by omega)]
   by_cases g:inB s i = true
   ·refine Ev.st (f:=fun k=>(q27.f k K P (i:Int) a).bind fun t103=>(if t103 = true then (if acc.length < 17592186044416 then (q26.l0 k s a (acc ++ [(i:Int)]) (K.length:Int) (wrap64 ((i:Int) + 1)) K P) else (none)) else (q26.l0 k s a acc (K.length:Int) (wrap64 ((i:Int) + 1)) K P))) ?_ (fun k=>?_)
    ·refine Ev.bd (Under_f hn hT (by omega) (by omega) a0 a1) ?_
     simp only [hw]
     by_cases u:unB P i a = true
     ·rw [if_pos ⟨e,g,u⟩]
      refine Ev.pos u (Ev.pos (by omega) ?_)
      exact Ev.val (ih (i + 1) (acc ++ [(i:Int)]) (by omega) (by simp;omega)) (by simp)
     ·rw [if_neg (fun h=>u h.2.2)]
      exact Ev.neg u (ih (i + 1) acc (by omega) (by omega))
    ·simp only [q26.l0]
     rw [if_pos (by omega),if_neg e,hin,Option.bind_some,if_pos g]
   ·rw [if_neg (fun h=>g h.2.1)]
    refine Ev.st (ih (i + 1) acc (by omega) (by omega)) (fun k=>?_)
    simp only [q26.l0]
    rw [if_pos (by omega),if_neg e,hin,Option.bind_some,if_neg g,hw]
theorem below_f {K P:List Int} (hn:P.length = K.length) (hT:Tree P) (h24:K.length < 1000000) (s a:Int) (a0:-1 ≤ a) (a1:a < K.length):Ev (fun k=>q26.f k K P s a) (belowL K P s a):=by
 have h:=below_l0 hn hT h24 s a a0 a1 K.length 0 [] (by omega) (by simp)
 simpa [q26.f,belowL] using h
theorem mem_below {K P:List Int} {s a x:Int}:x ∈ belowL K P s a ↔ ∃ j:Nat,x = j ∧ j < K.length ∧ (j:Int) ≠ a ∧ inB s j = true ∧ unB P j a = true:=by
 unfold belowL belowFrom
 simp only [List.mem_map,List.mem_filter,List.mem_range'_1,Bool.and_eq_true,decide_eq_true_eq]
 constructor
 ·rintro ⟨j,⟨h1,h2,h3,h4⟩,rfl⟩;exact ⟨j,rfl,by omega,h2,h3,h4⟩
 ·rintro ⟨j,rfl,h1,h2,h3,h4⟩;exact ⟨j,⟨by omega,h2,h3,h4⟩,rfl⟩
theorem below_len (K P:List Int) (s a:Int):(belowL K P s a).length ≤ K.length:=by
 unfold belowL belowFrom
 rw [List.length_map]
 exact Nat.le_trans (List.length_filter_le _ _) (by simp)
end Go.Proofs.Ytnomeokicfpidaa.M
namespace Go.Proofs.Ytnomeokicfpidaa.EW
open Go.RowKit Go.Proofs.YtnomeokicfpidaaW.PrintWords Go.Proofs.YtnomeokicfpidaaW.PrintLast Go.Proofs.YtnomeokicfpidaaW.PrintMore Go.Proofs.Ytnomeokicfpidaa.Q Go.Proofs.Ytnomeokicfpidaa.M
attribute [local go_sem] max2_int min2_int max_two min_two max_three min_three max_four min_four
set_option linter.unusedVariables false
set_option linter.unusedSimpArgs false
set_option maxHeartbeats 8000000 in
set_option maxRecDepth 100000 in
theorem in_hist {w0:World} {AK AP AQ:Option Addr} {cK cP cQ:Nat} {lK lP lQ:List Int} {g:Nat}
  (hK:Kd.C (Kd.int .i64) w0 AK lK.length lK) (hcK:lK.length ≤ cK) (hP:Kd.C (Kd.int .i64) w0 AP lP.length lP) (hcP:lP.length ≤ cP)
  (hn:lP.length = lK.length) (a:Int) (h0:0 ≤ a) (h1:a < lK.length) (b:Bool) (hb3:(rd lK a == 3) = !b) (hb4:(rd lK a == 4) = b) (r:List Int) (w:World) (v:Value) (out:List Int)
  (hW:WW w0 w g (.slice AK lK.length cK) (.slice AP lP.length cP) (.slice AQ lQ.length cQ) v out)
  (IH:∀ (w:World),WW w0 w g (.slice AK lK.length cK) (.slice AP lP.length cP) (.slice AQ lQ.length cQ) v out → Calls Try.prog 59 #[.pointer (some ⟨g,0,none⟩),.int .i64 (rd lP a),.bool b] w (Put w0 w g (.slice AK lK.length cK) (.slice AP lP.length cP) (.slice AQ lQ.length cQ) v r)) :
  Calls Try.prog 52 #[.pointer (some ⟨g,0,none⟩),.int .i64 a] w (Put w0 w g (.slice AK lK.length cK) (.slice AP lP.length cP) (.slice AQ lQ.length cQ) v r):=by
 have hu24:=Try.underlying24
 have hu70:=Try.underlying70
 have hc0:w.cell? ⟨g,0,none⟩ = some (.slice AK lK.length cK):=(blk_cell hW.blk 0).trans rfl
 have hc1:w.cell? ⟨g,1,none⟩ = some (.slice AP lP.length cP):=(blk_cell hW.blk 1).trans rfl
 obtain ⟨ad,e,hx⟩:=Kd.at_int (Kd.C_below hK hW.below) a h0 (by omega)
 subst e
 obtain ⟨adP,e,hxP⟩:=Kd.at_int (Kd.C_below hP hW.below) a h0 (by omega)
 subst e
 have p0:=eq_true h0
 have p1:=eq_true h1
 have p2:=eq_true (show a < (lP.length:Int) by omega)
 have HW:=Aside0.mk hW
 have HN:=Aside0.mk hn
 have HH:=Aside0.mk IH
 clear hW hn IH h0 h1
 cases b with
 | true =>
  have t3:(rd lK a == 3) = false:=hb3
  have t4:(rd lK a == 4) = true:=hb4
  clear hb3 hb4
  go_enter Try.func52,Try.ntmps52
  go_wp2
  go_still_tail 18,(by kernel_rfl)
  have hWn:=HW.out.step (below_drew (Below.refl w.heap.size w))
  have hFn:=Fr.of_below (below_drew (Below.refl w.heap.size w)) g v
  have HWN:=Aside0.mk hWn
  have HFN:=Aside0.mk hFn
  clear hWn hFn
  go_wp2_with (go_at_call 59;(with_reducible refine (HH.out _ HWN.out).mono ?_);rintro e w4 ⟨rfl,v',hW4,hF4⟩)
  refine bodyPost_ret (v:=.tuple #[]) (by simp [results,Try.results52,go_sem]) rfl ?_
  exact ⟨rfl,v',hW4,HFN.out.trans hF4⟩
 | false =>
  have t3:(rd lK a == 3) = true:=hb3
  have t4:(rd lK a == 4) = false:=hb4
  clear hb3 hb4
  go_enter Try.func52,Try.ntmps52
  go_wp2
  go_still_tail 18,(by kernel_rfl)
  have hWn:=HW.out.step (below_drew (Below.refl w.heap.size w))
  have hFn:=Fr.of_below (below_drew (Below.refl w.heap.size w)) g v
  have HWN:=Aside0.mk hWn
  have HFN:=Aside0.mk hFn
  clear hWn hFn
  go_wp2_with (go_at_call 59;(with_reducible refine (HH.out _ HWN.out).mono ?_);rintro e w4 ⟨rfl,v',hW4,hF4⟩)
  refine bodyPost_ret (v:=.tuple #[]) (by simp [results,Try.results52,go_sem]) rfl ?_
  exact ⟨rfl,v',hW4,HFN.out.trans hF4⟩
def inA (K P Q:List Int) (a:Int):List Int :=
 if rd K a = 3 then backR K P (inS K P K.length) (belowL K P (wasS Q (rd P a)) (rd P a)) (rd P a) false
 else if rd K a = 4 then backR K P (inS K P K.length) (belowL K P (wasS Q (rd P a)) (rd P a)) (rd P a) true
 else inS K P K.length a
def pathR (K P Q:List Int) (z:Int):Nat → Int → List Int
 | 0,_=>[]
 | f + 1,a=>if a = z then inA K P Q z else a :: ((kids P a).flatMap (fun k=>if unB P z k = true then pathR K P Q z f k else []) ++ (kids P a).flatMap (fun k=>if rd K a = 2 ∧ unB P z k = false then inA K P Q k else []))
theorem rd_range {K P:List Int} (h:Ok K P) {a:Int} (h0:0 ≤ a) (h1:a < K.length):1 ≤ rd K a ∧ rd K a ≤ 4:=by
 obtain ⟨a1,a2,_⟩:=okS_iff.1 (h.2.2.1 a.toNat (by omega))
 unfold rd;exact ⟨a1,a2⟩
theorem in_any {w0:World} {AK AP AQ:Option Addr} {cK cP cQ:Nat} {lK lP lQ:List Int} {g:Nat}
  (hK:Kd.C (Kd.int .i64) w0 AK lK.length lK) (hcK:lK.length ≤ cK) (hP:Kd.C (Kd.int .i64) w0 AP lP.length lP) (hcP:lP.length ≤ cP) (hQ:Kd.C (Kd.int .u32) w0 AQ lQ.length lQ) (hcQ:lQ.length ≤ cQ) (hO:Ok lK lP)
  (a:Int) (h0:0 ≤ a) (h1:a < lK.length) (w:World) (v:Value) (out:List Int)
  (hW:WW w0 w g (.slice AK lK.length cK) (.slice AP lP.length cP) (.slice AQ lQ.length cQ) v out) (hl:(out ++ inA lK lP lQ a).length < 17592186044416) :
  Calls Try.prog 52 #[.pointer (some ⟨g,0,none⟩),.int .i64 a] w (Put w0 w g (.slice AK lK.length cK) (.slice AP lP.length cP) (.slice AQ lQ.length cQ) v (out ++ inA lK lP lQ a)):=by
 have hn:=hO.1
 have h24:=hO.2.2.2.2
 have hT:=hO.tree
 have hr:=rd_range hO h0 h1
 have hp:=hT.rdP h0 (by omega)
 obtain ⟨_,_,b1,b2,b3⟩:=okS_iff.1 (hO.2.2.1 a.toNat (by omega))
 have e1:lP.getD a.toNat 0 = rd lP a:=rfl
 have e2:lK.getD a.toNat 0 = rd lK a:=rfl
 rw [e1] at b1 b2 b3
 rw [e2] at b3
 have hS:=in_solid (AQ:=AQ) (cQ:=cQ) (lQ:=lQ) (g:=g) hK hcK hP hcP hO lK.length
 have back:3 ≤ rd lK a → ∀ (b:Bool),(out ++ backR lK lP (inS lK lP lK.length) (belowL lK lP (wasS lQ (rd lP a)) (rd lP a)) (rd lP a) b).length < 17592186044416 → ∀ (w:World),WW w0 w g (.slice AK lK.length cK) (.slice AP lP.length cP) (.slice AQ lQ.length cQ) v out →
   Calls Try.prog 59 #[.pointer (some ⟨g,0,none⟩),.int .i64 (rd lP a),.bool b] w (Put w0 w g (.slice AK lK.length cK) (.slice AP lP.length cP) (.slice AQ lQ.length cQ) v (out ++ backR lK lP (inS lK lP lK.length) (belowL lK lP (wasS lQ (rd lP a)) (rd lP a)) (rd lP a) b)):=by
  intro h3 b hl w hW
  have hup:0 ≤ rd lP a:=by
   by_cases e:rd lP a = -1
   ·rw [if_pos e] at b3
    have:=solidB_iff.1 b3;omega
   ·omega
  refine back_calls hK hcK hP hcP hQ hcQ hn h24 (rd lP a) b _ (fun x hx=>?_) ?_ (below_f hn hT (by omega) _ _ (by omega) (by omega)).rounds _ w v out hW hl ?_
  ·obtain ⟨j,rfl,hj,_⟩:=mem_below.1 hx
   omega
  ·exact Nat.le_trans (below_len _ _ _ _) h24
  ·intro x x0 x1 x2 w v hW hl
   have:=(rd_range hO x0 x1).1
   exact hS x x0 x1 (by omega) (solidB_iff.2 (by omega)) w v out hW hl
 unfold inA at hl ⊢
 by_cases c3:rd lK a = 3
 ·rw [if_pos c3] at hl ⊢
  exact in_hist hK hcK hP hcP hn a h0 h1 false (by rw [c3];rfl) (by rw [c3];rfl) _ w v out hW (back (by omega) false hl)
 ·rw [if_neg c3] at hl ⊢
  by_cases c4:rd lK a = 4
  ·rw [if_pos c4] at hl ⊢
   exact in_hist hK hcK hP hcP hn a h0 h1 true (by rw [c4];rfl) (by rw [c4];rfl) _ w v out hW (back (by omega) true hl)
  ·rw [if_neg c4] at hl ⊢
   exact hS a h0 h1 (by omega) (solidB_iff.2 (by omega)) w v out hW hl
end Go.Proofs.Ytnomeokicfpidaa.EW
