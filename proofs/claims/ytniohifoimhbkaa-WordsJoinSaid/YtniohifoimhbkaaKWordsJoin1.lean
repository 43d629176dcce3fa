-- merged and slimmed by slim.py (a program of this repo)
import Derived.Test.YtniohifoimhbkaaKWordsJoin0
import Derived.Lib.BitFns
import Derived.Lib.IndexLaws
import Derived.Deep.Matrix
import Derived.SliceStrings
namespace Go.Proofs.Ytniohifoimhbkaa.Q
open Go.RowKit Go.Proofs.YtniohifoimhbkaaW.PrintWords Go.Proofs.YtniohifoimhbkaaW.PrintLast Go.Proofs.YtniohifoimhbkaaW.PrintMore
attribute [local go_sem] max2_int min2_int max_two min_two max_three min_three max_four min_four
set_option linter.unusedVariables false
set_option linter.unusedSimpArgs false
mutual
def q0.l0:Nat → List ByteArray → List Int → ByteArray → ByteArray → List (S28) → Int → Option (Bool)
 | 0,_,_,_,_,_,_=>none
 | k + 1,x0,x1,x2,x7,x8,x9=>if x9 < (x0.length:Int) then (q0.j1 k x0 x1 x2 x7 x8 x9 (decide (x9 < 6))) else (q0.j1 k x0 x1 x2 x7 x8 x9 false)
def q0.j1:Nat → List ByteArray → List Int → ByteArray → ByteArray → List (S28) → Int → Bool → Option (Bool)
 | 0,_,_,_,_,_,_,_=>none
 | k + 1,x0,x1,x2,x7,x8,x9,x25=>if x25 = true then (if x9 < (x1.length:Int) then (if 0 ≤ x9 then ((q1.f (rd x1 x9) 4).bind fun t102=>(q0.j2 k x0 x1 x2 x7 x8 x9 (wrap64 (1 + t102)))) else (none)) else (q0.j2 k x0 x1 x2 x7 x8 x9 1)) else ((q8.f k x7).bind fun bt110=>(if x7.size + 4 ≤ 9223372036854775807 then (if (x7 ++ (⟨#[32,32,35,32]⟩:ByteArray)).size + x2.size ≤ 9223372036854775807 then ((q8.f k ((x7 ++ (⟨#[32,32,35,32]⟩:ByteArray)) ++ x2)).bind fun bt114=>(if x7.size + 1 ≤ 9223372036854775807 then ((q8.f k (x7 ++ (⟨#[35]⟩:ByteArray))).bind fun bt118=>(if bt110.2 = 0 then (if bt114.2 = 0 then (if bt118.2 = 0 then ((q9.f k bt110.1 x8).bind fun t122=>(if t122 = true then ((q9.f k bt114.1 x8).bind fun t123=>(if t123 = true then ((q9.f k bt118.1 x8).bind fun t124=>(if t124 = true then ((q3.f k).bind fun t125=>(some t125)) else (some false))) else (some false))) else (some false))) else (some false)) else (some false)) else (some false))) else (none))) else (none)) else (none)))
def q0.j2:Nat → List ByteArray → List Int → ByteArray → ByteArray → List (S28) → Int → Int → Option (Bool)
 | 0,_,_,_,_,_,_,_=>none
 | k + 1,x0,x1,x2,x7,x8,x9,x10=>q0.l1 k x0 x1 x2 x7 x8 x9 x10 0
def q0.l1:Nat → List ByteArray → List Int → ByteArray → ByteArray → List (S28) → Int → Int → Int → Option (Bool)
 | 0,_,_,_,_,_,_,_,_=>none
 | k + 1,x0,x1,x2,x7,x8,x9,x10,x11=>if x11 < x10 then (if x7.size + 1 ≤ 9223372036854775807 then (q0.l1 k x0 x1 x2 (x7 ++ (⟨#[32]⟩:ByteArray)) x8 x9 x10 (wrap64 (x11 + 1))) else (none)) else (if 0 ≤ x9 then (if x9 < (x0.length:Int) then ((q2.f (rdOf ByteArray.empty x0 x9)).bind fun t104=>(if x8.length < 5864062014805 then ((q2.f (rdOf ByteArray.empty x0 x9)).bind fun t109=>(if x7.size + t109.size ≤ 9223372036854775807 then (q0.l0 k x0 x1 x2 (x7 ++ t109) (x8 ++ [(⟨t104,wrap64 ((x7.size:Int) + 1)⟩:S28)]) (wrap64 (x9 + 1))) else (none))) else (none))) else (none)) else (none))
end
def q0.f (k:Nat) (l0:List ByteArray) (l1:List Int) (a2:ByteArray):Option (Bool):=q0.l0 k l0 l1 a2 (⟨#[]⟩:ByteArray) ([]:List (S28)) 0
set_option maxHeartbeats 8000000 in
set_option maxRecDepth 100000 in
theorem q0.calls (k:Nat) (A0:Option Addr) (c0:Nat) (l0:List ByteArray) (A1:Option Addr) (c1:Nat) (l1:List Int) (a2:ByteArray) (r:Bool) (w:World) (hr0:Kd.C Kd.string w A0 l0.length l0) (hc0:l0.length ≤ c0) (hr1:Kd.C (Kd.int .i64) w A1 l1.length l1) (hc1:l1.length ≤ c1) (h:q0.f k l0 l1 a2 = some r) (hrt_:Aside0 (r = true)) :
  Calls Try.prog 3 #[.slice A0 l0.length c0,.slice A1 l1.length c1,.string a2] w fun e w'=>e = .returned (.bool r) ∧ Below w.heap.size w w':=by
 have hu28:=Try.underlying28
 have HR0:=Aside0.mk hr0
 have HC0:=Aside0.mk hc0
 clear hr0 hc0
 have HR1:=Aside0.mk hr1
 have HC1:=Aside0.mk hc1
 clear hr1 hc1
 have HB:=zk (Below.refl w.heap.size w)
 have H:(q0.l0 k l0 l1 a2 (⟨#[]⟩:ByteArray) ([]:List (S28)) 0) = some r:=h
 clear h
 have H':=Aside0.mk H
 clear H
 go_enter Try.func3,Try.ntmps3
 go_wp2
 go_loopg [7,8,9] k (fun kq v7 v8 v9 w'=>∃ (x7_1:ByteArray) (x8_1:List (S28)) (x9_1:Int),v7 = .string x7_1 ∧ v9 = .int .i64 x9_1 ∧ Aside0 (q0.l0 kq l0 l1 a2 x7_1 x8_1 x9_1 = some r) ∧ Aside0 (kq ≤ k) ∧ Aside0 (Kd.R k28 28 w' w.heap.size (fun _=>True) v8 x8_1) ∧ Aside0 (Below w.heap.size w w'))
 case atStart=>exact ⟨((⟨#[]⟩:ByteArray)),(([]:List (S28))),(0),oE,oE,H',⟨Nat.le_refl _⟩,⟨by first|exact Kd.R_nil _ _ _ _ _|exact Kd.N_nil _ _ _ _ _|exact Kd.V_nil _ _ _ _ _|exact Kd.Q_nil _ _ _ _ _|exact Kd.S_nil _ _ _ _ _⟩,⟨bq HB.out⟩⟩
 case round =>
  clear H'
  try clear c1
  try clear p2
  try clear c3
  obtain ⟨x7_1,x8_1,x9_1,rfl,rfl,HA,HK1,HO_8,HB⟩:=hrel
  cases gk with
  | zero=>exact absurd HA.out (by simp [q0.l0])
  | succ k1 =>
   have H:=HA.out
   clear HA
   simp only [q0.l0] at H
   have HC4:=Aside0.mk H
   clear H
   go_upto_region 4 with (fail)
   go_cut [25] (fun v25 wc=>∃ (kq:Nat) (x25_3:Bool),v25 = .bool x25_3 ∧ Aside0 (q0.j1 kq l0 l1 a2 x7_1 x8_1 x9_1 x25_3 = some r) ∧ Aside0 (kq ≤ k1) ∧ Aside0 (Kd.R k28 28 wc w.heap.size (fun _=>True) u8 x8_1) ∧ Aside0 (Below w.heap.size w wc))
   case first =>
    have H:=HC4.out
    clear HC4
    by_cases c5:x9_1 < (l0.length:Int)
    ·rw [if_pos c5] at H
     have c5b0:decide (x9_1 < (l0.length:Int)) = true:=decide_eq_true c5
     clear c5
     (first|rw [c5b0]|(simp only [i64_w,i32_w];rw [c5b0])|skip)
     have H':=Aside0.mk H
     clear H
     go_wp2
     go_meet
     case rel=>exact ⟨_,(decide (x9_1 < 6)),oE,H',⟨by have:=HK1.out;first|omega|exact Nat.le_refl _⟩,⟨rq HO_8.out⟩,⟨bq HB.out⟩⟩
    ·rw [if_neg c5] at H
     have c5b0:decide (x9_1 < (l0.length:Int)) = false:=decide_eq_false c5
     clear c5
     (first|rw [c5b0]|(simp only [i64_w,i32_w];rw [c5b0])|skip)
     have H':=Aside0.mk H
     clear H
     go_wp2
     go_meet
     case rel=>exact ⟨_,(false),oE,H',⟨by have:=HK1.out;first|omega|exact Nat.le_refl _⟩,⟨rq HO_8.out⟩,⟨bq HB.out⟩⟩
   case rest =>
    clear HC4
    try clear c1
    try clear p2
    try clear c3
    try clear c5
    try clear c5b0
    try clear p2
    obtain ⟨kq,x25_3,rfl,HA,HJ3,HO_8,HB⟩:=hcut
    cases kq with
    | zero=>exact absurd HA.out (by simp [q0.j1])
    | succ kj3 =>
     have H:=HA.out
     clear HA
     simp only [q0.j1] at H
     by_cases c6:x25_3 = true
     ·subst c6
      have H1:(if x9_1 < (l1.length:Int) then (if 0 ≤ x9_1 then ((q1.f (rd l1 x9_1) 4).bind fun t102=>(q0.j2 kj3 l0 l1 a2 x7_1 x8_1 x9_1 (wrap64 (1 + t102)))) else (none)) else (q0.j2 kj3 l0 l1 a2 x7_1 x8_1 x9_1 1)) = some r:=by rw [if_pos rfl] at H;exact H
      clear H
      have H:=H1
      clear H1
      have HC7:=Aside0.mk H
      clear H
      go_upto_if 31 with (fail)
      go_cut [10] (fun v10 wc=>∃ (kq:Nat) (x10_6:Int),v10 = .int .i64 x10_6 ∧ Aside0 (q0.j2 kq l0 l1 a2 x7_1 x8_1 x9_1 x10_6 = some r) ∧ Aside0 (kq ≤ kj3) ∧ Aside0 (Kd.R k28 28 wc w.heap.size (fun _=>True) u8 x8_1) ∧ Aside0 (Below w.heap.size w wc))
      case first =>
       have H:=HC7.out
       clear HC7
       by_cases c8:x9_1 < (l1.length:Int)
       ·rw [if_pos c8] at H
        have c8b0:decide (x9_1 < (l1.length:Int)) = true:=decide_eq_true c8
        clear c8
        (first|rw [c8b0]|(simp only [i64_w,i32_w];rw [c8b0])|skip)
        by_cases c9:0 ≤ x9_1
        ·rw [if_pos c9] at H
         have c9b0:decide (0 ≤ x9_1) = true:=decide_eq_true c9
         clear c9
         replace H:=Option.bind_eq_some_iff.mp H
         obtain ⟨t102,A100,H⟩:=H
         replace H:(q0.j2 kj3 l0 l1 a2 x7_1 x8_1 x9_1 (wrap64 (1 + t102))) = some r:=H
         have A10:=Aside0.mk A100
         clear A100
         have H':=Aside0.mk H
         clear H
         have p101:0 ≤ (x9_1:Int):=oA
         have q101:x9_1 < (l1.length:Int):=oA
         obtain ⟨ad101,e101,hx101_0⟩:=Kd.at_int HR1.out x9_1 p101 q101
         cases e101
         replace hx101_0:=(HB.out.cell (World.block_lt_of_cell? w _ hx101_0)).trans hx101_0
         replace p101:=eq_true p101
         replace q101:=eq_true q101
         go_wp2_with (first|((with_reducible refine gate_callee (f:=6) rfl ?_);refine goesL_ (some 36) rfl rfl Try.func6 (by kernel_rfl) rfl #[.int .i64 (rd l1 x9_1),.int .i64 4] rfl oF ?_;(with_reducible refine (q1.calls (rd l1 x9_1) 4 t102 _ A10.out).mono ?_);rintro e w' ⟨rfl,⟨nd,rfl⟩⟩;refine ⟨_,rfl,?_⟩))
         go_meet
         case rel=>exact ⟨_,(wrap64 (1 + t102)),oE,H',⟨by have:=HK1.out;have:=HJ3.out;first|omega|exact Nat.le_refl _⟩,⟨rq HO_8.out⟩,⟨bq HB.out⟩⟩
        ·rw [if_neg c9] at H
         exact absurd H (by simp)
       ·rw [if_neg c8] at H
        have c8b0:decide (x9_1 < (l1.length:Int)) = false:=decide_eq_false c8
        clear c8
        (first|rw [c8b0]|(simp only [i64_w,i32_w];rw [c8b0])|skip)
        have H':=Aside0.mk H
        clear H
        go_wp2
        go_meet
        case rel=>exact ⟨_,(1),oE,H',⟨by have:=HK1.out;have:=HJ3.out;first|omega|exact Nat.le_refl _⟩,⟨rq HO_8.out⟩,⟨bq HB.out⟩⟩
      case rest =>
       clear HC7
       try clear c1
       try clear p1
       try clear q1
       try clear hx1
       try clear p2
       try clear c3
       try clear c5
       try clear c5b0
       try clear c6
       try clear p6
       try clear c8
       try clear c8b0
       try clear c9
       try clear c9b0
       try clear p10
       try clear q10
       try clear hx10
       try clear hx101_0
       try clear p101
       try clear p2
       try clear q101
       obtain ⟨kq,x10_6,rfl,HA,HJ6,HO_8,HB⟩:=hcut
       cases kq with
       | zero=>exact absurd HA.out (by simp [q0.j2])
       | succ kj6 =>
        have H:=HA.out
        clear HA
        simp only [q0.j2] at H
        have H':=Aside0.mk H
        clear H
        go_wp2
        go_loopg [7,11] kj6 (fun kq v7 v11 w'=>∃ (x7_4:ByteArray) (x11_4:Int),v7 = .string x7_4 ∧ v11 = .int .i64 x11_4 ∧ Aside0 (q0.l1 kq l0 l1 a2 x7_4 x8_1 x9_1 x10_6 x11_4 = some r) ∧ Aside0 (kq ≤ kj6) ∧ Aside0 (Kd.R k28 28 w' w.heap.size (fun _=>True) u8 x8_1) ∧ Aside0 (Below w.heap.size w w'))
        case atStart=>exact ⟨(x7_1),(0),oE,oE,H',⟨Nat.le_refl _⟩,⟨rq HO_8.out⟩,⟨bq HB.out⟩⟩
        case round =>
         clear H'
         try clear c1
         try clear p1
         try clear q1
         try clear hx1
         try clear p2
         try clear c3
         try clear c5
         try clear c5b0
         try clear c6
         try clear p6
         try clear c8
         try clear c8b0
         try clear c9
         try clear c9b0
         try clear p10
         try clear q10
         try clear hx10
         try clear hx101_0
         try clear p1
         try clear p10
         try clear p101
         try clear p2
         try clear p6
         try clear q1
         try clear q10
         try clear q101
         obtain ⟨x7_4,x11_4,rfl,rfl,HA,HK4,HO_8,HB⟩:=hrel
         cases gk with
         | zero=>exact absurd HA.out (by simp [q0.l1])
         | succ k4 =>
          have H:=HA.out
          clear HA
          simp only [q0.l1] at H
          by_cases c11:x11_4 < x10_6
          ·rw [if_pos c11] at H
           have c11b0:decide (x11_4 < x10_6) = true:=decide_eq_true c11
           clear c11
           by_cases c12:x7_4.size + 1 ≤ 9223372036854775807
           ·rw [if_pos c12] at H
            have c12b0:=eq_true c12
            have c12b1:decide (x7_4.size + 1 ≤ 9223372036854775807) = true:=decide_eq_true c12
            try have c12b2:(9223372036854775807 < x7_4.size + 1) = False:=eq_false (Nat.not_lt.2 c12)
            have H':=Aside0.mk H
            clear H
            go_wp2
            go_roundg k4
            case measure=>have:=HK1.out;have:=HJ3.out;have:=HJ6.out;have:=HK4.out;omega
            case rel=>exact ⟨(x7_4 ++ (⟨#[32]⟩:ByteArray)),(wrap64 (x11_4 + 1)),oE,oE,H',⟨by have:=HK1.out;have:=HJ3.out;have:=HJ6.out;have:=HK4.out;omega⟩,⟨rq HO_8.out⟩,⟨bq HB.out⟩⟩
           ·rw [if_neg c12] at H
            exact absurd H (by simp)
          ·rw [if_neg c11] at H
           have c11b0:decide (x11_4 < x10_6) = false:=decide_eq_false c11
           clear c11
           by_cases c13:0 ≤ x9_1
           ·rw [if_pos c13] at H
            have c13b0:decide (0 ≤ x9_1) = true:=decide_eq_true c13
            clear c13
            by_cases c14:x9_1 < (l0.length:Int)
            ·rw [if_pos c14] at H
             have c14b0:decide (x9_1 < (l0.length:Int)) = true:=decide_eq_true c14
             clear c14
             replace H:=Option.bind_eq_some_iff.mp H
             obtain ⟨t104,A150,H⟩:=H
             replace H:(if x8_1.length < 5864062014805 then ((q2.f (rdOf ByteArray.empty l0 x9_1)).bind fun t109=>(if x7_4.size + t109.size ≤ 9223372036854775807 then (q0.l0 k4 l0 l1 a2 (x7_4 ++ t109) (x8_1 ++ [(⟨t104,wrap64 ((x7_4.size:Int) + 1)⟩:S28)]) (wrap64 (x9_1 + 1))) else (none))) else (none)) = some r:=H
             have A15:=Aside0.mk A150
             clear A150
             by_cases c16:x8_1.length < 5864062014805
             ·rw [if_pos c16] at H
              have LMc16:=Aside0.mk c16
              clear c16
              obtain ⟨y105,hy105⟩:∃ y_:List (S28),y_ = (x8_1 ++ [(⟨t104,wrap64 ((x7_4.size:Int) + 1)⟩:S28)]):=⟨_,rfl⟩
              replace H:((q2.f (rdOf ByteArray.empty l0 x9_1)).bind fun t109=>(if x7_4.size + t109.size ≤ 9223372036854775807 then (q0.l0 k4 l0 l1 a2 (x7_4 ++ t109) y105 (wrap64 (x9_1 + 1))) else (none))) = some r:=by first|(rw [hy105];with_reducible exact H)|(have H2_:=(Option.bind_some _ _).symm.trans H;rw [hy105];with_reducible exact H2_)|(have H2_:=(Option.bind_some _ _).symm.trans H;with_reducible exact H2_)|with_reducible exact H|(rw [hy105];exact H)|exact H
              have Ny105:=Aside0.mk hy105
              clear hy105
              replace H:=Option.bind_eq_some_iff.mp H
              obtain ⟨t109,A170,H⟩:=H
              replace H:(if x7_4.size + t109.size ≤ 9223372036854775807 then (q0.l0 k4 l0 l1 a2 (x7_4 ++ t109) y105 (wrap64 (x9_1 + 1))) else (none)) = some r:=H
              have A17:=Aside0.mk A170
              clear A170
              by_cases c18:x7_4.size + t109.size ≤ 9223372036854775807
              ·rw [if_pos c18] at H
               have c18b0:=eq_true c18
               have c18b1:decide (x7_4.size + t109.size ≤ 9223372036854775807) = true:=decide_eq_true c18
               try have c18b2:(9223372036854775807 < x7_4.size + t109.size) = False:=eq_false (Nat.not_lt.2 c18)
               have H':=Aside0.mk H
               clear H
               have p103:0 ≤ (x9_1:Int):=oA
               have q103:x9_1 < (l0.length:Int):=oA
               obtain ⟨ad103,e103,hx103_0⟩:=Kd.at_string HR0.out x9_1 p103 q103
               cases e103
               replace hx103_0:=(HB.out.cell (World.block_lt_of_cell? w _ hx103_0)).trans hx103_0
               replace p103:=eq_true p103
               replace q103:=eq_true q103
               go_wp2_with (first|((with_reducible refine gate_callee (f:=7) rfl ?_);refine goesL_ (some 50) rfl rfl Try.func7 (by kernel_rfl) rfl #[.string (rdOf ByteArray.empty l0 x9_1)] rfl oF ?_;(with_reducible refine (q2.calls (rdOf ByteArray.empty l0 x9_1) t104 _ A15.out).mono ?_);rintro e w19 ⟨rfl,hb⟩;refine ⟨_,rfl,?_⟩;have n0_:=zk (Kd.R_below (rq HO_8.out) hb);have n1_:=zk (below_step (bq HB.out) hb);clear HO_8;clear HB;have HO_8:=n0_;have HB:=n1_;clear n0_ n1_;(try clear hb);(try clear hb2);(try clear hk);(try clear hi))|((with_reducible refine gate_builtin (b:=.append) (xs:=#[.tmp 45,.tmp 55]) rfl ?_);at_builtin;refine Kd.R_append k28 (w0:=w) w.heap.size rfl (.tmp 45) (.tmp 55) 24 28 (.agg #[(.string ⟨#[]⟩),(.int .i64 0)]) 24 rfl Try.underlying24 info28 rfl (by decide) (by omega) u8 x8_1 (⟨t104,wrap64 ((x7_4.size:Int) + 1)⟩:S28) [.string t104,.int .i64 (wrap64 ((x7_4.size:Int) + 1))] (fun _=>True) (fun _=>False) rfl rfl ?aP (fun _ hk=>hk.elim) ?aF ?aO ?aB ?aS ?aL ?_;(case aP=>exact k28_mkM _ _ _ (⟨t104,wrap64 ((x7_4.size:Int) + 1)⟩:S28));(case aB=>exact (bq HB.out));(case aF=>exact (fun _ _=>trivial));(case aO=>exact (rq HO_8.out));(case aS=>exact (below_size (bq HB.out)));(case aL=>have:=LMc16.out;omega);intro v106 w20 ho hb hg hat;rw [← Ny105.out] at ho;have n0_:=zk (hb);have n1_:=zk (ho);clear HB;clear HO_8;have HB:=n0_;have HO107:=n1_;clear n0_ n1_;clear ho hb hg hat;have p108:0 ≤ (x9_1:Int):=oA;have q108:x9_1 < (l0.length:Int):=oA;obtain ⟨ad108,e108,hx108_0⟩:=Kd.at_string HR0.out x9_1 p108 q108;obtain rfl:ad103 = ad108:=(by injection e108);replace hx108_0:=(HB.out.cell (World.block_lt_of_cell? w _ hx108_0)).trans hx108_0;replace p108:=eq_true p108;replace q108:=eq_true q108)|((with_reducible refine gate_callee (f:=7) rfl ?_);refine goesL_ (some 62) rfl rfl Try.func7 (by kernel_rfl) rfl #[.string (rdOf ByteArray.empty l0 x9_1)] rfl oF ?_;(with_reducible refine (q2.calls (rdOf ByteArray.empty l0 x9_1) t109 _ A17.out).mono ?_);rintro e w21 ⟨rfl,hb⟩;refine ⟨_,rfl,?_⟩;have n0_:=zk (Kd.R_below (rq HO107.out) hb);have n1_:=zk (below_step (bq HB.out) hb);clear HO107;clear HB;have HO107:=n0_;have HB:=n1_;clear n0_ n1_;(try clear hb);(try clear hb2);(try clear hk);(try clear hi)))
               go_roundg k4
               case measure=>have:=HK1.out;have:=HJ3.out;have:=HJ6.out;have:=HK4.out;omega
               case rel=>exact ⟨(x7_4 ++ t109),(y105),(wrap64 (x9_1 + 1)),oE,oE,H',⟨by have:=HK1.out;have:=HJ3.out;have:=HJ6.out;have:=HK4.out;omega⟩,⟨rq HO107.out⟩,⟨bq HB.out⟩⟩
              ·rw [if_neg c18] at H
               exact absurd H (by simp)
             ·rw [if_neg c16] at H
              exact absurd H (by simp)
            ·rw [if_neg c14] at H
             exact absurd H (by simp)
           ·rw [if_neg c13] at H
            exact absurd H (by simp)
     ·replace c6:=Bool.eq_false_iff.mpr c6
      subst c6
      have H1:((q8.f kj3 x7_1).bind fun bt110=>(if x7_1.size + 4 ≤ 9223372036854775807 then (if (x7_1 ++ (⟨#[32,32,35,32]⟩:ByteArray)).size + a2.size ≤ 9223372036854775807 then ((q8.f kj3 ((x7_1 ++ (⟨#[32,32,35,32]⟩:ByteArray)) ++ a2)).bind fun bt114=>(if x7_1.size + 1 ≤ 9223372036854775807 then ((q8.f kj3 (x7_1 ++ (⟨#[35]⟩:ByteArray))).bind fun bt118=>(if bt110.2 = 0 then (if bt114.2 = 0 then (if bt118.2 = 0 then ((q9.f kj3 bt110.1 x8_1).bind fun t122=>(if t122 = true then ((q9.f kj3 bt114.1 x8_1).bind fun t123=>(if t123 = true then ((q9.f kj3 bt118.1 x8_1).bind fun t124=>(if t124 = true then ((q3.f kj3).bind fun t125=>(some t125)) else (some false))) else (some false))) else (some false))) else (some false)) else (some false)) else (some false))) else (none))) else (none)) else (none))) = some r:=by rw [if_neg (show ¬ (false = true) by decide)] at H;exact H
      clear H
      have H:=H1
      clear H1
      replace H:=Option.bind_eq_some_iff.mp H
      obtain ⟨⟨t110,t111⟩,A220,H⟩:=H
      replace H:(if x7_1.size + 4 ≤ 9223372036854775807 then (if (x7_1 ++ (⟨#[32,32,35,32]⟩:ByteArray)).size + a2.size ≤ 9223372036854775807 then ((q8.f kj3 ((x7_1 ++ (⟨#[32,32,35,32]⟩:ByteArray)) ++ a2)).bind fun bt114=>(if x7_1.size + 1 ≤ 9223372036854775807 then ((q8.f kj3 (x7_1 ++ (⟨#[35]⟩:ByteArray))).bind fun bt118=>(if t111 = 0 then (if bt114.2 = 0 then (if bt118.2 = 0 then ((q9.f kj3 t110 x8_1).bind fun t122=>(if t122 = true then ((q9.f kj3 bt114.1 x8_1).bind fun t123=>(if t123 = true then ((q9.f kj3 bt118.1 x8_1).bind fun t124=>(if t124 = true then ((q3.f kj3).bind fun t125=>(some t125)) else (some false))) else (some false))) else (some false))) else (some false)) else (some false)) else (some false))) else (none))) else (none)) else (none)) = some r:=H
      have A22:=Aside0.mk A220
      clear A220
      by_cases c23:x7_1.size + 4 ≤ 9223372036854775807
      ·rw [if_pos c23] at H
       have c23b0:=eq_true c23
       have c23b1:decide (x7_1.size + 4 ≤ 9223372036854775807) = true:=decide_eq_true c23
       try have c23b2:(9223372036854775807 < x7_1.size + 4) = False:=eq_false (Nat.not_lt.2 c23)
       by_cases c24:(x7_1 ++ (⟨#[32,32,35,32]⟩:ByteArray)).size + a2.size ≤ 9223372036854775807
       ·rw [if_pos c24] at H
        have c24b0:=eq_true c24
        have c24b1:decide ((x7_1 ++ (⟨#[32,32,35,32]⟩:ByteArray)).size + a2.size ≤ 9223372036854775807) = true:=decide_eq_true c24
        (try (have c24n:=c24;simp only [ByteArray.size_append,show (⟨#[32,32,35,32]⟩:ByteArray).size = 4 from rfl] at c24n;have c24m:=eq_false (Nat.not_lt.mpr c24n);have c24p:=decide_eq_true c24n))
        try have c24b2:(9223372036854775807 < (x7_1 ++ (⟨#[32,32,35,32]⟩:ByteArray)).size + a2.size) = False:=eq_false (Nat.not_lt.2 c24)
        replace H:=Option.bind_eq_some_iff.mp H
        obtain ⟨⟨t114,t115⟩,A250,H⟩:=H
        replace H:(if x7_1.size + 1 ≤ 9223372036854775807 then ((q8.f kj3 (x7_1 ++ (⟨#[35]⟩:ByteArray))).bind fun bt118=>(if t111 = 0 then (if t115 = 0 then (if bt118.2 = 0 then ((q9.f kj3 t110 x8_1).bind fun t122=>(if t122 = true then ((q9.f kj3 t114 x8_1).bind fun t123=>(if t123 = true then ((q9.f kj3 bt118.1 x8_1).bind fun t124=>(if t124 = true then ((q3.f kj3).bind fun t125=>(some t125)) else (some false))) else (some false))) else (some false))) else (some false)) else (some false)) else (some false))) else (none)) = some r:=H
        have A25:=Aside0.mk A250
        clear A250
        by_cases c26:x7_1.size + 1 ≤ 9223372036854775807
        ·rw [if_pos c26] at H
         have c26b0:=eq_true c26
         have c26b1:decide (x7_1.size + 1 ≤ 9223372036854775807) = true:=decide_eq_true c26
         try have c26b2:(9223372036854775807 < x7_1.size + 1) = False:=eq_false (Nat.not_lt.2 c26)
         replace H:=Option.bind_eq_some_iff.mp H
         obtain ⟨⟨t118,t119⟩,A270,H⟩:=H
         replace H:(if t111 = 0 then (if t115 = 0 then (if t119 = 0 then ((q9.f kj3 t110 x8_1).bind fun t122=>(if t122 = true then ((q9.f kj3 t114 x8_1).bind fun t123=>(if t123 = true then ((q9.f kj3 t118 x8_1).bind fun t124=>(if t124 = true then ((q3.f kj3).bind fun t125=>(some t125)) else (some false))) else (some false))) else (some false))) else (some false)) else (some false)) else (some false)) = some r:=H
         have A27:=Aside0.mk A270
         clear A270
         by_cases c28:t111 = 0
         ·rw [if_pos c28] at H
          have c28b0:(t111 == 0) = true:=beq_iff_eq.mpr c28
          have c28b1:(t111 != 0) = false:=bne_eq_false_iff_eq.mpr c28
          clear c28
          by_cases c29:t115 = 0
          ·rw [if_pos c29] at H
           have c29b0:(t115 == 0) = true:=beq_iff_eq.mpr c29
           have c29b1:(t115 != 0) = false:=bne_eq_false_iff_eq.mpr c29
           clear c29
           by_cases c30:t119 = 0
           ·rw [if_pos c30] at H
            have c30b0:(t119 == 0) = true:=beq_iff_eq.mpr c30
            have c30b1:(t119 != 0) = false:=bne_eq_false_iff_eq.mpr c30
            clear c30
            replace H:=Option.bind_eq_some_iff.mp H
            obtain ⟨t122,A310,H⟩:=H
            replace H:(if t122 = true then ((q9.f kj3 t114 x8_1).bind fun t123=>(if t123 = true then ((q9.f kj3 t118 x8_1).bind fun t124=>(if t124 = true then ((q3.f kj3).bind fun t125=>(some t125)) else (some false))) else (some false))) else (some false)) = some r:=H
            have A31:=Aside0.mk A310
            clear A310
            by_cases c32:t122 = true
            ·subst c32
             have H1:((q9.f kj3 t114 x8_1).bind fun t123=>(if t123 = true then ((q9.f kj3 t118 x8_1).bind fun t124=>(if t124 = true then ((q3.f kj3).bind fun t125=>(some t125)) else (some false))) else (some false))) = some r:=by rw [if_pos rfl] at H;exact H
             clear H
             have H:=H1
             clear H1
             replace H:=Option.bind_eq_some_iff.mp H
             obtain ⟨t123,A330,H⟩:=H
             replace H:(if t123 = true then ((q9.f kj3 t118 x8_1).bind fun t124=>(if t124 = true then ((q3.f kj3).bind fun t125=>(some t125)) else (some false))) else (some false)) = some r:=H
             have A33:=Aside0.mk A330
             clear A330
             by_cases c34:t123 = true
             ·subst c34
              have H1:((q9.f kj3 t118 x8_1).bind fun t124=>(if t124 = true then ((q3.f kj3).bind fun t125=>(some t125)) else (some false))) = some r:=by rw [if_pos rfl] at H;exact H
              clear H
              have H:=H1
              clear H1
              replace H:=Option.bind_eq_some_iff.mp H
              obtain ⟨t124,A350,H⟩:=H
              replace H:(if t124 = true then ((q3.f kj3).bind fun t125=>(some t125)) else (some false)) = some r:=H
              have A35:=Aside0.mk A350
              clear A350
              by_cases c36:t124 = true
              ·subst c36
               have H1:((q3.f kj3).bind fun t125=>(some t125)) = some r:=by rw [if_pos rfl] at H;exact H
               clear H
               have H:=H1
               clear H1
               replace H:=Option.bind_eq_some_iff.mp H
               obtain ⟨t125,A370,H⟩:=H
               replace H:(some t125) = some r:=H
               have A37:=Aside0.mk A370
               clear A370
               obtain rfl:=Option.some.inj H
               go_wp2_with (first|((with_reducible refine gate_callee (f:=8) rfl ?_);refine goesL_ (some 66) rfl rfl Try.func8 (by kernel_rfl) rfl #[.string x7_1] rfl oF ?_;(with_reducible refine (q8.calls kj3 x7_1 t110 t111 _ A22.out).mono ?_);rintro e w38 ⟨v112,rfl,ho0,hb⟩;refine ⟨_,rfl,?_⟩;have n0_:=zk (Kd.R_elder' (rq HO_8.out) (Kd.R_base ho0) hb);have n1_:=zk (Kd.R_lower (Kd.R_new' ho0 (Kd.R_lt (rq HO_8.out))) (below_size (bq HB.out)));have n2_:=zk (below_step (bq HB.out) hb);clear HO_8;clear HB;have HO_8:=n0_;have HO113:=n1_;have HB:=n2_;clear n0_ n1_ n2_;(try clear hb);(try clear hb2);(try clear hk);(try clear hi);(try clear ho0))|((with_reducible refine gate_callee (f:=8) rfl ?_);refine goesL_ (some 74) rfl rfl Try.func8 (by kernel_rfl) rfl #[.string ((x7_1 ++ (⟨#[32,32,35,32]⟩:ByteArray)) ++ a2)] rfl oF ?_;(with_reducible refine (q8.calls kj3 ((x7_1 ++ (⟨#[32,32,35,32]⟩:ByteArray)) ++ a2) t114 t115 _ A25.out).mono ?_);rintro e w39 ⟨v116,rfl,ho0,hb⟩;refine ⟨_,rfl,?_⟩;have n0_:=zk (Kd.R_elder' (rq HO_8.out) (Kd.R_base ho0) hb);have n1_:=zk (Kd.R_elder' (rq HO113.out) (Kd.R_base ho0) hb);have n2_:=zk (Kd.R_lower (Kd.R_new' (Kd.R_new' ho0 (Kd.R_lt (rq HO_8.out))) (Kd.R_lt (rq HO113.out))) (below_size (bq HB.out)));have n3_:=zk (below_step (bq HB.out) hb);clear HO_8;clear HO113;clear HB;have HO_8:=n0_;have HO113:=n1_;have HO117:=n2_;have HB:=n3_;clear n0_ n1_ n2_ n3_;(try clear hb);(try clear hb2);(try clear hk);(try clear hi);(try clear ho0))|((with_reducible refine gate_callee (f:=8) rfl ?_);refine goesL_ (some 80) rfl rfl Try.func8 (by kernel_rfl) rfl #[.string (x7_1 ++ (⟨#[35]⟩:ByteArray))] rfl oF ?_;(with_reducible refine (q8.calls kj3 (x7_1 ++ (⟨#[35]⟩:ByteArray)) t118 t119 _ A27.out).mono ?_);rintro e w40 ⟨v120,rfl,ho0,hb⟩;refine ⟨_,rfl,?_⟩;have n0_:=zk (Kd.R_elder' (rq HO_8.out) (Kd.R_base ho0) hb);have n1_:=zk (Kd.R_elder' (rq HO113.out) (Kd.R_base ho0) hb);have n2_:=zk (Kd.R_elder' (rq HO117.out) (Kd.R_base ho0) hb);have n3_:=zk (Kd.R_lower (Kd.R_new' (Kd.R_new' (Kd.R_new' ho0 (Kd.R_lt (rq HO_8.out))) (Kd.R_lt (rq HO113.out))) (Kd.R_lt (rq HO117.out))) (below_size (bq HB.out)));have n4_:=zk (below_step (bq HB.out) hb);clear HO_8;clear HO113;clear HO117;clear HB;have HO_8:=n0_;have HO113:=n1_;have HO117:=n2_;have HO121:=n3_;have HB:=n4_;clear n0_ n1_ n2_ n3_ n4_;(try clear hb);(try clear hb2);(try clear hk);(try clear hi);(try clear ho0);obtain ⟨Ao41,co41,eo41⟩:=Kd.R_slice HO113.out;subst eo41;obtain ⟨Ao42,co42,eo42⟩:=Kd.R_slice HO_8.out;subst eo42)|(go_at_call 9;(with_reducible refine (q9.calls kj3 _ _ t110 _ _ x8_1 true _ ?side1 ?side2 ?side3 ?side4 A31.out).mono ?_);(case side1=>exact cq ((Kd.R_reads' HO113.out).2.2));(case side2=>exact (Kd.R_reads' HO113.out).2.1);(case side3=>exact cq ((Kd.R_reads' HO_8.out).2.2));(case side4=>exact (Kd.R_reads' HO_8.out).2.1);rintro e w' ⟨rfl,⟨nd,rfl⟩⟩;obtain ⟨Ao43,co43,eo43⟩:=Kd.R_slice HO117.out;subst eo43)|(go_at_call 9;(with_reducible refine (q9.calls kj3 _ _ t114 _ _ x8_1 true _ ?side1 ?side2 ?side3 ?side4 A33.out).mono ?_);(case side1=>exact cq ((Kd.R_reads' HO117.out).2.2));(case side2=>exact (Kd.R_reads' HO117.out).2.1);(case side3=>exact cq ((Kd.R_reads' HO_8.out).2.2));(case side4=>exact (Kd.R_reads' HO_8.out).2.1);rintro e w' ⟨rfl,⟨nd,rfl⟩⟩;obtain ⟨Ao44,co44,eo44⟩:=Kd.R_slice HO121.out;subst eo44)|(go_at_call 9;(with_reducible refine (q9.calls kj3 _ _ t118 _ _ x8_1 true _ ?side1 ?side2 ?side3 ?side4 A35.out).mono ?_);(case side1=>exact cq ((Kd.R_reads' HO121.out).2.2));(case side2=>exact (Kd.R_reads' HO121.out).2.1);(case side3=>exact cq ((Kd.R_reads' HO_8.out).2.2));(case side4=>exact (Kd.R_reads' HO_8.out).2.1);rintro e w' ⟨rfl,⟨nd,rfl⟩⟩)|(go_at_call 10;(with_reducible refine (q3.calls kj3  t125 _ A37.out).mono ?_);rintro e w45 ⟨rfl,hb⟩;have n0_:=zk (Kd.R_below (rq HO_8.out) hb);have n1_:=zk (Kd.R_below (rq HO113.out) hb);have n2_:=zk (Kd.R_below (rq HO117.out) hb);have n3_:=zk (Kd.R_below (rq HO121.out) hb);have n4_:=zk (below_step (bq HB.out) hb);clear HO_8;clear HO113;clear HO117;clear HO121;clear HB;have HO_8:=n0_;have HO113:=n1_;have HO117:=n2_;have HO121:=n3_;have HB:=n4_;clear n0_ n1_ n2_ n3_ n4_;(try clear hb);(try clear hb2);(try clear hk);(try clear hi)))
               go_ret
               exact ⟨by first|rfl|(simp [errW_none,errW_some] <;> rfl)|(simp [*,errW_none,errW_some] <;> rfl),bq HB.out⟩
              ·replace c36:=Bool.eq_false_iff.mpr c36
               subst c36
               have H1:(some false) = some r:=by rw [if_neg (show ¬ (false = true) by decide)] at H;exact H
               clear H
               have H:=H1
               clear H1
               exact absurd (H.trans (congrArg some hrt_.out)) (by simp)
             ·replace c34:=Bool.eq_false_iff.mpr c34
              subst c34
              have H1:(some false) = some r:=by rw [if_neg (show ¬ (false = true) by decide)] at H;exact H
              clear H
              have H:=H1
              clear H1
              exact absurd (H.trans (congrArg some hrt_.out)) (by simp)
            ·replace c32:=Bool.eq_false_iff.mpr c32
             subst c32
             have H1:(some false) = some r:=by rw [if_neg (show ¬ (false = true) by decide)] at H;exact H
             clear H
             have H:=H1
             clear H1
             exact absurd (H.trans (congrArg some hrt_.out)) (by simp)
           ·rw [if_neg c30] at H
            have c30b0:(t119 == 0) = false:=beq_eq_false_iff_ne.mpr c30
            have c30b1:(t119 != 0) = true:=bne_iff_ne.mpr c30
            exact absurd (H.trans (congrArg some hrt_.out)) (by simp)
          ·rw [if_neg c29] at H
           have c29b0:(t115 == 0) = false:=beq_eq_false_iff_ne.mpr c29
           have c29b1:(t115 != 0) = true:=bne_iff_ne.mpr c29
           exact absurd (H.trans (congrArg some hrt_.out)) (by simp)
         ·rw [if_neg c28] at H
          have c28b0:(t111 == 0) = false:=beq_eq_false_iff_ne.mpr c28
          have c28b1:(t111 != 0) = true:=bne_iff_ne.mpr c28
          exact absurd (H.trans (congrArg some hrt_.out)) (by simp)
        ·rw [if_neg c26] at H
         exact absurd H (by simp)
       ·rw [if_neg c24] at H
        exact absurd H (by simp)
      ·rw [if_neg c23] at H
       exact absurd H (by simp)
end Go.Proofs.Ytniohifoimhbkaa.Q
namespace Go.Proofs.Ytniohifoimhbkaa.M
open Go.RowKit Go.Proofs.YtniohifoimhbkaaW.PrintWords Go.Proofs.YtniohifoimhbkaaW.PrintLast Go.Proofs.YtniohifoimhbkaaW.PrintMore
set_option linter.unusedVariables false
theorem w64 {x:Int} (h0:-9223372036854775808 ≤ x) (h1:x ≤ 9223372036854775807):wrap64 x = x:=by unfold wrap64;omega
theorem w1 (i:Nat) (h:i < 4611686018427387904):wrap64 ((i:Int) + 1) = ((i + 1:Nat):Int):=by rw [w64 (by omega) (by omega)];omega
theorem Ev.bd {α β:Type} {g:Nat → Option α} {f:Nat → α → Option β} {a:α} {r:β} (h:Ev g a) (k:Ev (fun n=>f n a) r):Ev (fun n=>(g n).bind (fun x=>f n x)) r:=Ev.bind h k
theorem Ev.som {α β:Type} {f:Nat → α → Option β} {a:α} {r:β} (k:Ev (fun n=>f n a) r):Ev (fun n=>(some a).bind (fun x=>f n x)) r:=k
theorem Ev.pos {α:Type} {c:Prop} [Decidable c] {f g:Nat → Option α} {r:α} (h:c) (k:Ev f r):Ev (fun n=>if c then f n else g n) r:=by simpa [h] using k
theorem Ev.neg {α:Type} {c:Prop} [Decidable c] {f g:Nat → Option α} {r:α} (h:¬ c) (k:Ev g r):Ev (fun n=>if c then f n else g n) r:=by simpa [h] using k
theorem Ev.ite {α:Type} {c:Prop} [Decidable c] {f g:Nat → Option α} {r s:α} (k:c → Ev f r) (l:¬ c → Ev g s):Ev (fun n=>if c then f n else g n) (if c then r else s):=by
 by_cases h:c
 ·simpa [h] using k h
 ·simpa [h] using l h
theorem Ev.val {α:Type} {g:Nat → Option α} {r s:α} (h:Ev g r) (e:r = s):Ev g s:=e ▸ h
theorem Ev.un {α:Type} {g:Nat → Option α} {r s:α} (h:Ev g r) (h' : Ev g s):r = s:=by
 obtain ⟨K,h⟩:=h
 obtain ⟨L,h'⟩:=h'
 have a:=h (max K L) (Nat.le_max_left _ _)
 have b:=h' (max K L) (Nat.le_max_right _ _)
 rw [a] at b;exact Option.some.inj b
end Go.Proofs.Ytniohifoimhbkaa.M
namespace Go.Proofs.Ytniohifoimhbkaa.M
open Go.RowKit Go.Proofs.YtniohifoimhbkaaW.PrintWords Go.Proofs.YtniohifoimhbkaaW.PrintLast Go.Proofs.YtniohifoimhbkaaW.PrintMore Go.Proofs.Ytniohifoimhbkaa.Q
set_option linter.unusedVariables false
set_option linter.unusedSectionVars false
theorem bt_nat (s:ByteArray) (k:Nat) (h:k < s.size):bt s (k:Int) = ((s[k]'h).toNat:Int):=by
 unfold bt
 rw [dif_pos (by rw [Int.toNat_natCast];exact h)]
 simp only [Int.toNat_natCast]
theorem bt_ext (s:ByteArray) (a b k:Nat) (h:k < (s.extract a b).size):bt (s.extract a b) (k:Int) = bt s ((a + k:Nat):Int):=by
 have h':=h
 rw [ByteArray.size_extract] at h'
 rw [bt_nat _ _ h,bt_nat _ _ (by omega),ByteArray.getElem_extract]
theorem bt_list (s:ByteArray) (k:Nat) (h:k < s.size) (c:UInt8):s.data.toList[k]? = some c ↔ bt s (k:Int) = (c.toNat:Int):=by
 rw [bt_nat s k h]
 have e:s.data.toList[k]? = some (s[k]'h):=by
  rw [List.getElem?_eq_getElem (by rw [Array.length_toList];exact h)]
  rfl
 rw [e]
 constructor
 ·intro h;rw [Option.some.inj h]
 ·intro h
  congr 1
  exact UInt8.toNat_inj.1 (by omega)
def CutAt (s:ByteArray) (c:Int) (m:Nat):Prop:=m ≤ s.size ∧ (∀ k:Nat,k < m → bt s (k:Int) ≠ c) ∧ (m = s.size ∨ bt s (m:Int) = c)
theorem index_one (s:ByteArray) (c:UInt8):q5.f s ⟨#[c]⟩ = some (Lib.indexByte s.data.toList c):=rfl
theorem cut_one (s:ByteArray) (c:UInt8) (hs:s.size < 4611686018427387904):∃ (m:Nat) (x:ByteArray) (b:Bool),q7.f s ⟨#[c]⟩ = some (s.extract 0 m,x,b) ∧ CutAt s c.toNat m:=by
 unfold q7.f q6.f
 rw [index_one]
 have hge:=Lib.indexByte_ge s.data.toList c
 by_cases h:Lib.indexByte s.data.toList c = -1
 ·refine ⟨s.size,⟨#[]⟩,false,?_,Nat.le_refl _,fun k hk e=>?_,.inl rfl⟩
  ·rw [h]
   simp only [Option.bind_some]
   rw [if_neg (by omega),Option.bind_some]
   congr 1
   rw [show s.extract 0 s.size = s by simp]
  ·exact Lib.indexByte_none h k ((bt_list s k hk c).2 e)
 ·obtain ⟨o,ho⟩:∃ o:Nat,Lib.indexByte s.data.toList c = o:=⟨(Lib.indexByte s.data.toList c).toNat,by omega⟩
  obtain ⟨h1,h2⟩:=Lib.indexByte_some ho
  have hlt:o < s.size:=by
   rcases Nat.lt_or_ge o s.size with h|h
   ·exact h
   ·rw [List.getElem?_eq_none (by rw [Array.length_toList];exact h)] at h1;cases h1
  have hw:wrap64 ((o:Int) + (((⟨#[c]⟩:ByteArray)).size:Int)) = ((o + 1:Nat):Int):=by
   show wrap64 ((o:Int) + 1) = _
   exact w1 o (by omega)
  refine ⟨o,s.extract ((o + 1:Nat):Int).toNat s.size,true,?_,by omega,fun k hk e=>h2 k hk ((bt_list s k (by omega) c).2 e),.inr ((bt_list s o hlt c).1 h1)⟩
  rw [ho]
  simp only [Option.bind_some]
  rw [if_pos (by omega),if_pos (by omega),if_pos (by omega),hw,if_pos (by omega),if_pos (by omega),Option.bind_some,Int.toNat_natCast]
section
variable {s:ByteArray} {m:Nat} (hs:s.size ≤ 1000000) (hm:CutAt s 35 m)
include hs hm
end
end Go.Proofs.Ytniohifoimhbkaa.M
namespace Go.Proofs.Ytniohifoimhbkaa.M
open Go.RowKit Go.Proofs.YtniohifoimhbkaaW.PrintWords Go.Proofs.YtniohifoimhbkaaW.PrintLast Go.Proofs.YtniohifoimhbkaaW.PrintMore Go.Proofs.Ytniohifoimhbkaa.Q
set_option linter.unusedVariables false
theorem bt_app (a b:ByteArray) (k:Nat) (h:k < (a ++ b).size):bt (a ++ b) (k:Int) = if k < a.size then bt a (k:Int) else bt b ((k - a.size:Nat):Int):=by
 have hs:(a ++ b).size = a.size + b.size:=ByteArray.size_append ..
 rw [bt_nat _ _ h]
 by_cases c:k < a.size
 ·rw [if_pos c,bt_nat _ _ c,ByteArray.getElem_append_left c]
 ·rw [if_neg c,bt_nat _ _ (by omega),ByteArray.getElem_append_right (by omega)]
theorem bt_app_l {a b:ByteArray} {k:Nat} (h:k < a.size):bt (a ++ b) (k:Int) = bt a (k:Int):=by
 rw [bt_app a b k (by rw [ByteArray.size_append];omega),if_pos h]
theorem bt_app_r {a b:ByteArray} {k:Nat} (h:a.size ≤ k) (h' : k < a.size + b.size):bt (a ++ b) (k:Int) = bt b ((k - a.size:Nat):Int):=by
 rw [bt_app a b k (by rw [ByteArray.size_append];exact h'),if_neg (by omega)]
theorem CutAt.un {s:ByteArray} {c:Int} {m m' : Nat} (h:CutAt s c m) (h' : CutAt s c m'):m = m':=by
 rcases Nat.lt_trichotomy m m' with l|e|l
 ·rcases h.2.2 with g|g
  ·have:=h'.1;omega
  ·exact absurd g (h'.2.1 m l)
 ·exact e
 ·rcases h'.2.2 with g|g
  ·have:=h.1;omega
  ·exact absurd g (h.2.1 m' l)
def Lx (s:ByteArray) (m:Nat):Nat → List S28 → Prop
 | x,[]=>∀ k:Nat,x ≤ k → k < m → bt s (k:Int) = 32
 | x,w :: ws=>∃ c len:Nat,x ≤ c ∧ 0 < len ∧ c + len ≤ m ∧ w = ⟨s.extract c (c + len),((c + 1:Nat):Int)⟩ ∧ (∀ k:Nat,x ≤ k → k < c → bt s (k:Int) = 32) ∧ (∀ k:Nat,c ≤ k → k < c + len → bt s (k:Int) ≠ 32) ∧
   (c + len = m ∨ bt s ((c + len:Nat):Int) = 32) ∧ Lx s m (c + len) ws
section
variable {s:ByteArray} {m:Nat} (hs:s.size < 4611686018427387904) (hm:CutAt s 35 m)
include hs hm
omit hs in
theorem line_bt' {k:Nat} (hk:k < m):bt (s.extract 0 m) (k:Int) = bt s (k:Int):=by
 have:=hm.1
 rw [bt_ext _ _ _ _ (by rw [ByteArray.size_extract];omega),Nat.zero_add]
omit hs in
theorem line_size' : (s.extract 0 m).size = m:=by
 have:=hm.1
 rw [ByteArray.size_extract];omega
theorem lx_blanks (acc:List S28) (r:List S28 × Int) (c:Nat) (hc:c ≤ m) (h:Ev (fun k=>q8.l1 k (s.extract 0 m) acc (c:Int)) r):∀ (d x:Nat),x + d = c → (∀ k:Nat,x ≤ k → k < c → bt s (k:Int) = 32) → Ev (fun k=>q8.l1 k (s.extract 0 m) acc (x:Int)) r:=by
 have hz:=line_size' hm
 have hmm:=hm.1
 intro d
 induction d with
 | zero =>
  intro x hx _
  obtain rfl:x = c:=by omega
  exact h
 | succ d ih =>
  intro x hx hb
  refine Ev.step (fun k=>q8.l1.eq_2 ..) ?_
  rw [line_bt' hm (by omega),w1 x (by omega)]
  exact Ev.pos (by omega) (Ev.pos (by omega) (Ev.pos (hb x (by omega) (by omega)) (ih (x + 1) (by omega) (fun k a b=>hb k (by omega) b))))
theorem lx_l1:∀ (ws:List S28) (x:Nat) (acc:List S28),x ≤ m → Lx s m x ws → acc.length + ws.length < 5864062014805 → Ev (fun k=>q8.l1 k (s.extract 0 m) acc (x:Int)) (acc ++ ws,0):=by
 have hz:=line_size' hm
 have hmm:=hm.1
 intro ws
 induction ws with
 | nil =>
  intro x acc hx h hl
  have h' : ∀ k:Nat,x ≤ k → k < m → bt s (k:Int) = 32:=h
  refine lx_blanks hs hm acc _ m (Nat.le_refl _) ?_ (m - x) x (by omega) h'
  refine Ev.step (fun k=>q8.l1.eq_2 ..) ?_
  exact Ev.neg (by omega) (Ev.val (Ev.now _) (by rw [List.append_nil]))
 | cons w ws ih =>
  intro x acc hx h hl
  obtain ⟨c,len,h1,h2,h3,rfl,h5,h6,h7,h8⟩:=h
  rw [List.length_cons] at hl
  refine lx_blanks hs hm acc _ c (by omega) ?_ (c - x) x (by omega) h5
  obtain ⟨n,y,b,hc,g1,g2,g3⟩:=cut_one ((s.extract 0 m).extract c m) 32 (by rw [ByteArray.size_extract,hz];omega)
  have hz2:((s.extract 0 m).extract c m).size = m - c:=by rw [ByteArray.size_extract,hz];omega
  have hb2:∀ k:Nat,k < m - c → bt ((s.extract 0 m).extract c m) (k:Int) = bt s ((c + k:Nat):Int):=by
   intro k hk
   rw [bt_ext _ _ _ _ (by omega),line_bt' hm (by omega)]
  rw [hz2] at g1 g3
  have g3:n = m - c ∨ bt ((s.extract 0 m).extract c m) (n:Int) = 32:=g3
  have g2:∀ k:Nat,k < n → bt ((s.extract 0 m).extract c m) (k:Int) ≠ 32:=g2
  have hn:n = len:=by
   rcases Nat.lt_trichotomy n len with l|e|l
   ·rcases g3 with g|g
    ·omega
    ·rw [hb2 n (by omega)] at g
     exact absurd g (h6 (c + n) (by omega) (by omega))
   ·exact e
   ·have:=g2 len l
    rw [hb2 len (by omega)] at this
    rcases h7 with h|h
    ·omega
    ·exact absurd h this
  subst hn
  have ht:((s.extract 0 m).extract c m).extract 0 n = s.extract c (c + n):=by
   rw [ByteArray.extract_extract,ByteArray.extract_extract]
   congr 1 <;> omega
  have htz:(s.extract c (c + n)).size = n:=by rw [ByteArray.size_extract];omega
  refine Ev.step (fun k=>q8.l1.eq_2 ..) ?_
  rw [line_bt' hm (by omega),Int.toNat_natCast,hz,hc]
  refine Ev.pos (by omega) (Ev.pos (by omega) (Ev.neg (h6 c (by omega) (by omega)) (Ev.pos (by omega) (Ev.som (Ev.pos (by omega) ?_)))))
  rw [ht,htz,w1 c (by omega),w64 (x:=(c:Int) + (n:Int)) (by omega) (by omega),show (c:Int) + (n:Int) = ((c + n:Nat):Int) by omega]
  have:=ih (c + n) (acc ++ [⟨s.extract c (c + n),((c + 1:Nat):Int)⟩]) (by omega) h8 (by rw [List.length_append,List.length_singleton];omega)
  exact Ev.val this (by simp)
theorem ok_l0 (r:List S28 × Int) (h:Ev (fun k=>q8.l1 k (s.extract 0 m) [] 0) r) (hok:∀ k:Nat,k < m → 32 ≤ bt s (k:Int) ∧ bt s (k:Int) ≤ 126):∀ (d x:Nat),x + d = m → Ev (fun k=>q8.l0 k (s.extract 0 m) [] (x:Int)) r:=by
 have hz:=line_size' hm
 have hmm:=hm.1
 intro d
 induction d with
 | zero =>
  intro x hx
  refine Ev.step (fun k=>q8.l0.eq_2 ..) ?_
  exact Ev.neg (by omega) h
 | succ d ih =>
  intro x hx
  have hk:=hok x (by omega)
  refine Ev.step (fun k=>q8.l0.eq_2 ..) ?_
  rw [line_bt' hm (by omega),w1 x (by omega)]
  exact Ev.pos (by omega) (Ev.pos (by omega) (Ev.neg (by omega) (Ev.neg (by omega) (ih (x + 1) (by omega)))))
theorem split_at (r:List S28 × Int) (h:Ev (fun k=>q8.l0 k (s.extract 0 m) [] 0) r):Ev (fun k=>q8.f k s) r:=by
 unfold q8.f
 obtain ⟨m',x,b,hc,hm'⟩:=cut_one s 35 hs
 have hm'' : CutAt s 35 m':=hm'
 obtain rfl:=CutAt.un hm hm''
 rw [hc]
 exact Ev.som h
theorem split_words {ws:List S28} (h:Lx s m 0 ws) (hl:ws.length < 5864062014805) (hok:∀ k:Nat,k < m → 32 ≤ bt s (k:Int) ∧ bt s (k:Int) ≤ 126):Ev (fun k=>q8.f k s) (ws,0):=by
 refine split_at hs hm _ (ok_l0 hs hm _ ?_ hok m 0 (by omega))
 have:=lx_l1 hs hm ws 0 [] (by omega) h (by simpa using hl)
 exact this
end
def Clean (t:ByteArray):Prop:=0 < t.size ∧ t.size ≤ 11 ∧ ∀ k:Nat,k < t.size → 33 ≤ bt t (k:Int) ∧ bt t (k:Int) ≤ 126 ∧ bt t (k:Int) ≠ 35
theorem clean_f (a:ByteArray):∃ t,q2.f a = some t ∧ Clean t:=by
 refine ⟨_,rfl,?_⟩
 have hsz:(cleanB (a.data.toList.take 10)).size = (cleanL (a.data.toList.take 10)).length + 1:=by
  unfold cleanB;simp [ByteArray.size]
 have hl:(cleanL (a.data.toList.take 10)).length ≤ 10:=Nat.le_trans (List.length_filter_le _ _) (by rw [List.length_take];omega)
 refine ⟨by omega,by omega,fun k hk=>?_⟩
 have hmem:∀ c ∈ ((119:UInt8) :: cleanL (a.data.toList.take 10)),33 ≤ c.toNat ∧ c.toNat ≤ 126 ∧ c.toNat ≠ 35:=by
  intro c hc
  rcases List.mem_cons.1 hc with rfl|hc
  ·decide
  ·have:=(List.mem_filter.1 hc).2
   simp only [Bool.and_eq_true,decide_eq_true_eq,bne_iff_ne,ne_eq] at this
   omega
 rw [bt_nat _ _ hk]
 have hin:(cleanB (a.data.toList.take 10))[k] ∈ ((119:UInt8) :: cleanL (a.data.toList.take 10)):=by
  have:(cleanB (a.data.toList.take 10))[k] = ((119:UInt8) :: cleanL (a.data.toList.take 10))[k]'(by rw [List.length_cons];omega):=rfl
  rw [this];exact List.getElem_mem _
 have:=hmem _ hin
 omega
theorem wakes1_f:Ev (fun k=>q3.f k) true:=Ev.of (fun k=>q3.mono k) (k:=30) (by decide +kernel)
end Go.Proofs.Ytniohifoimhbkaa.M
namespace Go.Proofs.Ytniohifoimhbkaa.Pure
open Go.RowKit Go.Proofs.YtniohifoimhbkaaW.PrintWords Go.Proofs.YtniohifoimhbkaaW.PrintLast Go.Proofs.YtniohifoimhbkaaW.PrintMore Go.Proofs.Ytniohifoimhbkaa.Q Go.Proofs.Ytniohifoimhbkaa.M
set_option linter.unusedVariables false
theorem within_j (a b:Int) (hb:1 ≤ b) (hb' : b ≤ 4611686018427387904):q1.f a b = some (a % b):=by
 unfold q1.f
 have h0:=Int.emod_nonneg a (show b ≠ 0 by omega)
 have h1:=Int.emod_lt_of_pos a (show 0 < b by omega)
 rw [if_neg (by omega),if_neg (by omega),Int.tmod_eq_emod]
 by_cases h:0 ≤ a ∨ b ∣ a
 ·rw [if_pos h,if_neg (by omega)];simp
 ·rw [if_neg h]
  have:a % b ≠ 0:=fun e=>h (.inr (Int.dvd_of_emod_eq_zero e))
  rw [if_pos (by omega),w64 (by omega) (by omega)]
  congr 1;omega
theorem ext_left {a b:ByteArray} {c e:Nat} (h:e ≤ a.size):(a ++ b).extract c e = a.extract c e:=by
 refine ByteArray.ext_getElem (by rw [ByteArray.size_extract,ByteArray.size_extract,ByteArray.size_append];omega) (fun i h1 h2=>?_)
 rw [ByteArray.size_extract] at h2
 rw [ByteArray.getElem_extract,ByteArray.getElem_extract,ByteArray.getElem_append_left (by omega)]
theorem lx_ext {s u:ByteArray}:∀ {ws:List S28} {x:Nat},Lx s s.size x ws → x ≤ s.size → ∀ {n:Nat},n ≤ u.size → (∀ k:Nat,k < n → bt u (k:Int) = 32) → Lx (s ++ u) (s.size + n) x ws
 | [],x,h,hx,n,hn,hu=>by
  intro k a b
  have h' : ∀ k:Nat,x ≤ k → k < s.size → bt s (k:Int) = 32:=h
  by_cases e:k < s.size
  ·rw [bt_app_l e];exact h' k a e
  ·rw [bt_app_r (by omega) (by omega)];exact hu _ (by omega)
 | w :: ws,x,h,hx,n,hn,hu=>by
  obtain ⟨c,len,h1,h2,h3,rfl,h5,h6,h7,h8⟩:=h
  refine ⟨c,len,h1,h2,by omega,by rw [ext_left h3],fun k a b=>by rw [bt_app_l (by omega)];exact h5 k a b,fun k a b=>by rw [bt_app_l (by omega)];exact h6 k a b,?_,lx_ext h8 h3 hn hu⟩
  by_cases e:c + len = s.size
  ·by_cases e0:n = 0
   ·left;omega
   ·right
    rw [bt_app_r (by omega) (by omega),show c + len - s.size = 0 by omega]
    exact hu 0 (by omega)
  ·right
   rw [bt_app_l (by omega)]
   exact h7.resolve_left e
theorem Lx.word {s t:ByteArray} (hlast:0 < s.size → bt s ((s.size - 1:Nat):Int) = 32) (ht:M.Clean t):∀ {ws:List S28} {x:Nat},Lx s s.size x ws → x ≤ s.size → Lx (s ++ t) (s.size + t.size) x (ws ++ [⟨t,((s.size + 1:Nat):Int)⟩])
 | [],x,h,hx=>by
  have h' : ∀ k:Nat,x ≤ k → k < s.size → bt s (k:Int) = 32:=h
  refine ⟨s.size,t.size,hx,ht.1,Nat.le_refl _,?_,fun k a b=>by rw [bt_app_l b];exact h' k a b,fun k a b=>?_,.inl rfl,fun k a b=>by omega⟩
  ·rw [ByteArray.extract_append_eq_right rfl rfl]
  ·rw [bt_app_r a (by omega)]
   have:=ht.2.2 (k - s.size) (by omega)
   omega
 | w :: ws,x,h,hx=>by
  obtain ⟨c,len,h1,h2,h3,rfl,h5,h6,h7,h8⟩:=h
  have hne:c + len ≠ s.size:=fun e=>by
   have:=hlast (by omega)
   exact h6 (s.size - 1) (by omega) (by omega) this
  refine ⟨c,len,h1,h2,by omega,by rw [ext_left h3],fun k a b=>by rw [bt_app_l (by omega)];exact h5 k a b,fun k a b=>by rw [bt_app_l (by omega)];exact h6 k a b,.inr ?_,Lx.word hlast ht h8 h3⟩
  rw [bt_app_l (by omega)]
  exact h7.resolve_left hne
structure LayS (s:ByteArray) (ws:List S28):Prop where
 lx:Lx s s.size 0 ws
 ok:∀ k:Nat,k < s.size → 32 ≤ bt s (k:Int) ∧ bt s (k:Int) ≤ 126 ∧ bt s (k:Int) ≠ 35
theorem LayS.blank {s:ByteArray} {ws:List S28} (h:LayS s ws):LayS (s ++ (⟨#[32]⟩:ByteArray)) ws:=by
 have hz:(s ++ (⟨#[32]⟩:ByteArray)).size = s.size + 1:=by rw [ByteArray.size_append];rfl
 have hb:∀ k:Nat,k < 1 → bt (⟨#[32]⟩:ByteArray) (k:Int) = 32:=fun k hk=>by rw [show k = 0 by omega];rfl
 refine ⟨by rw [hz];exact lx_ext h.lx (by omega) (Nat.le_refl 1) hb,fun k hk=>?_⟩
 rw [hz] at hk
 by_cases e:k < s.size
 ·rw [bt_app_l e];exact h.ok k e
 ·rw [bt_app_r (by omega) (show k < s.size + 1 by omega),hb _ (by omega)];omega
theorem LayS.last {s:ByteArray}:0 < (s ++ (⟨#[32]⟩:ByteArray)).size → bt (s ++ (⟨#[32]⟩:ByteArray)) (((s ++ (⟨#[32]⟩:ByteArray)).size - 1:Nat):Int) = 32:=by
 have hz:(s ++ (⟨#[32]⟩:ByteArray)).size = s.size + 1:=by rw [ByteArray.size_append];rfl
 intro _
 rw [hz,Nat.add_sub_cancel,bt_app_r (Nat.le_refl _) (show s.size < s.size + 1 by omega),Nat.sub_self];rfl
theorem LayS.word {s t:ByteArray} {ws:List S28} (h:LayS s ws) (hlast:0 < s.size → bt s ((s.size - 1:Nat):Int) = 32) (ht:M.Clean t):LayS (s ++ t) (ws ++ [⟨t,((s.size + 1:Nat):Int)⟩]):=by
 have hz:(s ++ t).size = s.size + t.size:=ByteArray.size_append ..
 refine ⟨by rw [hz];exact Lx.word hlast ht h.lx (by omega),fun k hk=>?_⟩
 rw [hz] at hk
 by_cases e:k < s.size
 ·rw [bt_app_l e];exact h.ok k e
 ·rw [bt_app_r (by omega) hk]
  have:=ht.2.2 (k - s.size) (by omega)
  omega
theorem same_words (L:List S28) (hl:L.length < 1000000):Ev (fun k=>q9.f k L L) true:=by
 unfold q9.f
 refine Ev.pos rfl ?_
 have:∀ (d i:Nat),i + d = L.length → Ev (fun k=>q9.l0 k L L (i:Int)) true:=by
  intro d
  induction d with
  | zero =>
   intro i hi
   refine Ev.step (fun k=>q9.l0.eq_2 ..) ?_
   exact Ev.neg (by omega) (Ev.now _)
  | succ d ih =>
   intro i hi
   refine Ev.step (fun k=>q9.l0.eq_2 ..) ?_
   rw [w1 i (by omega)]
   exact Ev.pos (by omega) (Ev.pos (by omega) (Ev.pos (by omega) (Ev.neg (by simp) (ih (i + 1) (by omega)))))
 exact this L.length 0 (by omega)
section
variable (x0:List ByteArray) (x1:List Int) (x2:ByteArray) (h2:x2.size ≤ 140737488351232)
include h2
theorem join_end {s:ByteArray} {ws:List S28} (h:LayS s ws) (hs:s.size ≤ 1000) (hw:ws.length ≤ 10) (i:Int):Ev (fun k=>q0.j1 k x0 x1 x2 s ws i false) true:=by
 have hb:∀ k:Nat,k < 2 → bt (⟨#[32,32,35,32]⟩:ByteArray) (k:Int) = 32:=fun k hk=>by
  rcases (show k = 0 ∨ k = 1 by omega) with rfl|rfl <;> rfl
 have z4:(s ++ (⟨#[32,32,35,32]⟩:ByteArray)).size = s.size + 4:=by rw [ByteArray.size_append];rfl
 have z5:((s ++ (⟨#[32,32,35,32]⟩:ByteArray)) ++ x2).size = s.size + 4 + x2.size:=by rw [ByteArray.size_append,z4]
 have z1:(s ++ (⟨#[35]⟩:ByteArray)).size = s.size + 1:=by rw [ByteArray.size_append];rfl
 have A:Ev (fun k=>q8.f k s) (ws,0) :=
  split_words (m:=s.size) (by omega) ⟨Nat.le_refl _,fun k hk=>(h.ok k hk).2.2,.inl rfl⟩ h.lx (by omega) (fun k hk=>⟨(h.ok k hk).1,(h.ok k hk).2.1⟩)
 have tailB:∀ k:Nat,k < s.size + 2 → bt ((s ++ (⟨#[32,32,35,32]⟩:ByteArray)) ++ x2) (k:Int) = if k < s.size then bt s (k:Int) else 32:=fun k hk=>by
  rw [bt_app_l (by omega)]
  by_cases e:k < s.size
  ·rw [if_pos e,bt_app_l e]
  ·rw [if_neg e,bt_app_r (by omega) (show k < s.size + 4 by omega)];exact hb _ (by omega)
 have B:Ev (fun k=>q8.f k ((s ++ (⟨#[32,32,35,32]⟩:ByteArray)) ++ x2)) (ws,0):=by
  have lx:=lx_ext h.lx (u:=(⟨#[32,32,35,32]⟩:ByteArray) ++ x2) (by omega) (n:=2) (by rw [ByteArray.size_append];show 2 ≤ 4 + _;omega) (fun k hk=>by rw [bt_app_l (show k < 4 by omega)];exact hb k hk)
  rw [← ByteArray.append_assoc] at lx
  refine split_words (m:=s.size + 2) (by omega) ⟨by omega,fun k hk=>?_,.inr ?_⟩ lx (by omega) (fun k hk=>?_)
  ·rw [tailB k hk]
   by_cases e:k < s.size
   ·rw [if_pos e];exact (h.ok k e).2.2
   ·rw [if_neg e];omega
  ·rw [bt_app_l (by omega),bt_app_r (by omega) (show s.size + 2 < s.size + 4 by omega),show s.size + 2 - s.size = 2 by omega];rfl
  ·rw [tailB k hk]
   by_cases e:k < s.size
   ·rw [if_pos e];exact ⟨(h.ok k e).1,(h.ok k e).2.1⟩
   ·rw [if_neg e];omega
 have C:Ev (fun k=>q8.f k (s ++ (⟨#[35]⟩:ByteArray))) (ws,0):=by
  have lx:=lx_ext h.lx (u:=(⟨#[35]⟩:ByteArray)) (by omega) (n:=0) (by omega) (fun k hk=>by omega)
  refine split_words (m:=s.size + 0) (by omega) ⟨by omega,fun k hk=>?_,.inr ?_⟩ lx (by omega) (fun k hk=>?_)
  ·rw [bt_app_l (by omega)];exact (h.ok k (by omega)).2.2
  ·rw [bt_app_r (by omega) (show s.size + 0 < s.size + 1 by omega),show s.size + 0 - s.size = 0 by omega];rfl
  ·rw [bt_app_l (by omega)];exact ⟨(h.ok k (by omega)).1,(h.ok k (by omega)).2.1⟩
 have W:=same_words ws (by omega)
 refine Ev.step (fun k=>q0.j1.eq_2 ..) ?_
 refine Ev.neg (by simp) (Ev.bd A (Ev.pos (by omega) (Ev.pos (by rw [z4];omega) (Ev.bd B (Ev.pos (by omega) (Ev.bd C ?_))))))
 exact Ev.pos rfl (Ev.pos rfl (Ev.pos rfl (Ev.bd W (Ev.pos rfl (Ev.bd W (Ev.pos rfl (Ev.bd W (Ev.pos rfl (Ev.bd wakes1_f (Ev.now _))))))))))
omit h2 in
theorem join_l1 {ws:List S28} (i:Nat) (hi:i < x0.length) (hi6:i < 6) (hw:ws.length = i) (n:Nat) (hn:n ≤ 4)
  (next:∀ (s:ByteArray) (ws:List S28),LayS s ws → s.size ≤ 15 * (i + 1) → ws.length = i + 1 → Ev (fun k=>q0.l0 k x0 x1 x2 s ws ((i + 1:Nat):Int)) true) :
  ∀ (d x:Nat) (s:ByteArray),x + d = n → LayS s ws → s.size ≤ 15 * i + x → (d = 0 → 0 < s.size → bt s ((s.size - 1:Nat):Int) = 32) → Ev (fun k=>q0.l1 k x0 x1 x2 s ws (i:Int) (n:Int) (x:Int)) true:=by
 intro d
 induction d with
 | zero =>
  intro x s hx h hs hlast
  obtain ⟨t,ht,tc⟩:=clean_f (rdOf ByteArray.empty x0 (i:Int))
  refine Ev.step (fun k=>q0.l1.eq_2 ..) ?_
  rw [ht,w1 i (by omega),w1 s.size (by omega)]
  refine Ev.neg (by omega) (Ev.pos (by omega) (Ev.pos (by omega) (Ev.som (Ev.pos (by omega) (Ev.som (Ev.pos (by have:=tc.2.1;omega) ?_))))))
  exact next (s ++ t) _ (h.word (hlast rfl) tc) (by have:=tc.2.1;rw [ByteArray.size_append];omega) (by simp [hw])
 | succ d ih =>
  intro x s hx h hs _
  refine Ev.step (fun k=>q0.l1.eq_2 ..) ?_
  rw [w1 x (by omega)]
  refine Ev.pos (by omega) (Ev.pos (by omega) ?_)
  have hz:(s ++ (⟨#[32]⟩:ByteArray)).size = s.size + 1:=by rw [ByteArray.size_append];rfl
  exact ih (x + 1) _ (by omega) h.blank (by omega) (fun _=>LayS.last)
theorem join_l0:∀ (d i:Nat) (s:ByteArray) (ws:List S28),i + d = min x0.length 6 → LayS s ws → s.size ≤ 15 * i → ws.length = i → Ev (fun k=>q0.l0 k x0 x1 x2 s ws (i:Int)) true:=by
 intro d
 induction d with
 | zero =>
  intro i s ws hi h hs hw
  have fin:=join_end x0 x1 x2 h2 h (by omega) (by omega) (i:Int)
  refine Ev.step (fun k=>q0.l0.eq_2 ..) ?_
  by_cases c:(i:Int) < (x0.length:Int)
  ·refine Ev.pos c ?_
   rw [decide_eq_false (by omega)];exact fin
  ·exact Ev.neg c fin
 | succ d ih =>
  intro i s ws hi h hs hw
  have main:∀ n:Nat,1 ≤ n → n ≤ 4 → Ev (fun k=>q0.j2 k x0 x1 x2 s ws (i:Int) (n:Int)) true:=fun n hn1 hn4=>by
   refine Ev.step (fun k=>q0.j2.eq_2 ..) ?_
   exact join_l1 x0 x1 x2 i (by omega) (by omega) hw n hn4 (fun s ws a b c=>ih (i + 1) s ws (by omega) a b c) n 0 s (by omega) h (by omega) (fun e=>by omega)
  refine Ev.step (fun k=>q0.l0.eq_2 ..) ?_
  refine Ev.pos (by omega) ?_
  rw [decide_eq_true (show (i:Int) < 6 by omega)]
  refine Ev.step (fun k=>q0.j1.eq_2 ..) ?_
  refine Ev.pos rfl ?_
  by_cases c:(i:Int) < (x1.length:Int)
  ·refine Ev.pos c (Ev.pos (by omega) ?_)
   rw [within_j _ 4 (by omega) (by omega)]
   have g0:=Int.emod_nonneg (rd x1 (i:Int)) (show (4:Int) ≠ 0 by omega)
   have g1:=Int.emod_lt_of_pos (rd x1 (i:Int)) (show (0:Int) < 4 by omega)
   generalize rd x1 (i:Int) % 4 = g at g0 g1
   refine Ev.som ?_
   rw [w64 (by omega) (by omega),show 1 + g = ((1 + g.toNat:Nat):Int) by omega]
   exact main _ (by omega) (by omega)
  ·exact Ev.neg c (main 1 (by omega) (by omega))
end
theorem WordsJoin (l0:List ByteArray) (l1:List Int) (a2:ByteArray) (_:l0.length ≤ maxLen) (_:l1.length ≤ maxLen) (_:l1.length * 8 ≤ 140737488351232) (_:∀ x ∈ l1,(Lit.int .i64 x).wf = true) (h2:a2.size ≤ 140737488351232):∃ k,Q.q0.f k l0 l1 a2 = some true:=by
 refine Ev.rounds (r:=true) ?_
 unfold q0.f
 exact join_l0 l0 l1 a2 h2 (min l0.length 6) 0 (⟨#[]⟩:ByteArray) [] (by omega) ⟨fun k a b=>absurd b (by simp [ByteArray.size]),fun k hk=>absurd hk (by simp [ByteArray.size])⟩ (by simp [ByteArray.size]) rfl
end Go.Proofs.Ytniohifoimhbkaa.Pure
namespace Go.Proofs.YtniohifoimhbkaaW.PrintWords
open Go.RowKit Go.ChangeShapes Go.WideShapes Go.Deep
set_option linter.unusedVariables false
theorem open_strs_C {H:Type} {enc:TypeId × Value → H} {P:Program} {w:World} {base:Nat} {held:Bool} {spare:Nat → Bool} {t e:TypeId} {fuel:Nat} {A:Option Addr} {len cap:Nat} {x:DataW H × List MemPlace}
  (ht:P.underlying t = some (.slice e)) (he:P.underlying e = some .string) (hc:P.cellsOf e = 1) (h:DataW.trod enc P w base spare held fuel t (Value.slice A len cap).cells.toList = some x) :
  ∃ l:List ByteArray,len = l.length ∧ l.length ≤ cap ∧ l.length ≤ maxLen ∧ Kd.C Kd.string w A l.length l:=by
 rcases open_strings ht he hc h with ⟨hcs,_⟩|⟨a,len',cap',ss,hcs,_,hl,hm,hz,_,hcell,_⟩
 ·simp [Value.cells] at hcs
  obtain ⟨rfl,rfl,rfl⟩:=hcs
  exact ⟨[],rfl,by simp,by simp [maxLen],⟨rfl,by simp,fun h=>by simp at h⟩⟩
 ·simp [Value.cells] at hcs
  obtain ⟨rfl,rfl,rfl⟩:=hcs
  have hge:len ≤ ss.length:=by rw [hz];split <;> omega
  have hlen:(ss.take len).length = len:=by rw [List.length_take];omega
  refine ⟨ss.take len,hlen.symm,by rw [hlen];exact hl,by rw [hlen];omega,?_⟩
  rw [hlen]
  refine ⟨hlen,by unfold maxLen at hm;omega,fun _=>⟨a,rfl,fun j p hj=>?_⟩⟩
  have hjl:j < len:=by
   have:=(List.getElem?_eq_some_iff.1 hj).1
   rwa [hlen] at this
  rw [List.getElem?_take,if_pos hjl] at hj
  have hcl:=hcell j (by omega)
  rw [List.getD_eq_getElem?_getD,hj] at hcl
  refine ⟨[.string p],rfl,rfl,fun i u hu=>?_⟩
  cases i with
  | zero =>
   have:u = .string p:=(Option.some.inj hu).symm
   rw [this,Nat.add_zero,show j * Kd.string.sz = j from Nat.mul_one j];exact hcl
  | succ i=>simp at hu
end Go.Proofs.YtniohifoimhbkaaW.PrintWords
