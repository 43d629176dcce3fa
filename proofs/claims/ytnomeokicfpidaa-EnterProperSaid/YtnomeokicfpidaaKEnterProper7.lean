-- merged and slimmed by slim.py (a program of this repo)
import Derived.Test.YtnomeokicfpidaaKEnterProper1
import Derived.Test.YtnomeokicfpidaaKEnterProper6
namespace Go.Proofs.Ytnomeokicfpidaa.Q
open Go.RowKit Go.Proofs.YtnomeokicfpidaaW.PrintWords Go.Proofs.YtnomeokicfpidaaW.PrintLast Go.Proofs.YtnomeokicfpidaaW.PrintMore
attribute [local go_sem] max2_int min2_int max_two min_two max_three min_three max_four min_four
set_option linter.unusedVariables false
set_option linter.unusedSimpArgs false
mutual
def q2.j0:Nat → Int → Int → Int → List Int → List Int → Int → Int → Bool → List Int → List Int → Option (Bool)
 | 0,_,_,_,_,_,_,_,_,_,_=>none
 | k + 1,x3,x13,x14,x15,x16,x17,x18,x105,x114000,x114001=>if x105 = true then (some false) else (q2.l0 k x3 x13 x14 x15 x16 x17 x18 x16 (x16.length:Int) 0 x114000 x114001)
def q2.l0:Nat → Int → Int → Int → List Int → List Int → Int → Int → List Int → Int → Int → List Int → List Int → Option (Bool)
 | 0,_,_,_,_,_,_,_,_,_,_,_,_=>none
 | k + 1,x3,x13,x14,x15,x16,x17,x18,x106,x107,x108,x114000,x114001=>if x108 < x107 then (if 0 ≤ x108 then (if x108 < (x106.length:Int) then (if (rd x106 x108) < 0 then (q2.j2 k x3 x13 x14 x15 x16 x17 x18 x108 (rd x106 x108) x106 x107 x108 true x114000 x114001) else (q2.j2 k x3 x13 x14 x15 x16 x17 x18 x108 (rd x106 x108) x106 x107 x108 (decide ((rd x106 x108) ≥ (x114000.length:Int))) x114000 x114001)) else (none)) else (none)) else (q2.l2 k x3 x13 x15 x17 x18 x15 (x15.length:Int) 0 x114000 x114001)
def q2.j2:Nat → Int → Int → Int → List Int → List Int → Int → Int → Int → Int → List Int → Int → Int → Bool → List Int → List Int → Option (Bool)
 | 0,_,_,_,_,_,_,_,_,_,_,_,_,_,_,_=>none
 | k + 1,x3,x13,x14,x15,x16,x17,x18,x19,x20,x106,x107,x108,x121,x114000,x114001=>if x121 = true then (some false) else (if 0 ≤ x20 then (if x20 < (x114001.length:Int) then (if (rd x114001 x20) = x14 then (q2.j3 k x3 x13 x14 x15 x16 x17 x18 x19 (rd x114001 x20) x106 x107 x108 false x114000 x114001) else (q2.j3 k x3 x13 x14 x15 x16 x17 x18 x19 (rd x114001 x20) x106 x107 x108 (decide ((rd x114001 x20) ≥ 0)) x114000 x114001)) else (none)) else (none))
def q2.j3:Nat → Int → Int → Int → List Int → List Int → Int → Int → Int → Int → List Int → Int → Int → Bool → List Int → List Int → Option (Bool)
 | 0,_,_,_,_,_,_,_,_,_,_,_,_,_,_,_=>none
 | k + 1,x3,x13,x14,x15,x16,x17,x18,x19,x21,x106,x107,x108,x133,x114000,x114001=>if x133 = true then (if 0 ≤ x19 then (if x19 ≤ (x16.length:Int) then ((some (x16.take (x19:Int).toNat:List Int)).bind fun y135=>(q2.l1 k x3 x13 x14 x15 x16 x17 x18 x21 false x106 x107 x108 y135 (y135.length:Int) 0 x114000 x114001)) else (none)) else (none)) else (q2.l0 k x3 x13 x14 x15 x16 x17 x18 x106 x107 (wrap64 (x108 + 1)) x114000 x114001)
def q2.l1:Nat → Int → Int → Int → List Int → List Int → Int → Int → Int → Bool → List Int → Int → Int → List Int → Int → Int → List Int → List Int → Option (Bool)
 | 0,_,_,_,_,_,_,_,_,_,_,_,_,_,_,_,_,_=>none
 | k + 1,x3,x13,x14,x15,x16,x17,x18,x21,x22,x106,x107,x108,x136,x137,x138,x114000,x114001=>if x138 < x137 then (if 0 ≤ x138 then (if x138 < (x136.length:Int) then (if x22 = true then (q2.l1 k x3 x13 x14 x15 x16 x17 x18 x21 true x106 x107 x108 x136 x137 (wrap64 (x138 + 1)) x114000 x114001) else (q2.l1 k x3 x13 x14 x15 x16 x17 x18 x21 ((rd x136 x138) == x21) x106 x107 x108 x136 x137 (wrap64 (x138 + 1)) x114000 x114001)) else (none)) else (none)) else (if x22 = true then (q2.l0 k x3 x13 x14 x15 x16 x17 x18 x106 x107 (wrap64 (x108 + 1)) x114000 x114001) else (some false))
def q2.l2:Nat → Int → Int → List Int → Int → Int → List Int → Int → Int → List Int → List Int → Option (Bool)
 | 0,_,_,_,_,_,_,_,_,_,_=>none
 | k + 1,x3,x13,x15,x17,x18,x152,x153,x154,x114000,x114001=>if x154 < x153 then (if 0 ≤ x154 then (if x154 < (x152.length:Int) then (if x154 > 0 then (if 0 ≤ (wrap64 (x154 - 1)) then (if (wrap64 (x154 - 1)) < (x15.length:Int) then (if (rd x152 x154) ≥ (rd x15 (wrap64 (x154 - 1))) then (some false) else (q2.l2 k x3 x13 x15 x17 x18 x152 x153 (wrap64 (x154 + 1)) x114000 x114001)) else (none)) else (none)) else (q2.l2 k x3 x13 x15 x17 x18 x152 x153 (wrap64 (x154 + 1)) x114000 x114001)) else (none)) else (none)) else (if 0 ≤ x3 then (if x3 < (x114000.length:Int) then (if (rd x114000 x3) ≥ 3 then (q2.j6 k x13 x17 x18 true x114000 x114001) else (if 0 ≤ (IntKind.u64.wrap (x3)) then (q2.j6 k x13 x17 x18 ((Go.bits .and .u32 (shr .u32 x18 (IntKind.u64.wrap (x3))) 1) == 1) x114000 x114001) else (none))) else (none)) else (none))
def q2.j6:Nat → Int → Int → Int → Bool → List Int → List Int → Option (Bool)
 | 0,_,_,_,_,_,_=>none
 | k + 1,x13,x17,x18,x27,x114000,x114001=>if x27 = true then ((q20.f k x114000 x114001 (Go.bits .or .u32 (Go.bits .andNot .u32 x13 x17) x18)).bind fun t143=>(if t143 = true then ((q24.f x114000 x114001).bind fun t144=>((q13.f k t144).bind fun t147=>((q20.f k x114000 x114001 t147).bind fun t148=>(if t148 = true then ((q9.f k).bind fun t149=>(some t149)) else (some false))))) else (some false))) else (some false)
end
def q2.f (k:Nat) (l0:List Int) (l1:List Int) (a2:Int) (a3:Int) (l4:List (List Int)):Option (Bool):=(q14.f k l0).bind fun bt101=>((q7.f k bt101.2.2.1 bt101.2.2.2 l1).bind fun t115=>((q11.f a2 (bt101.1.length:Int)).bind fun t116=>((q11.f a3 (bt101.1.length:Int)).bind fun t117=>(if 0 ≤ (IntKind.u64.wrap (t116)) then (if (Go.bits .and .u32 (shr .u32 t115 (IntKind.u64.wrap (t116))) 1) = 0 then ((q9.f k).bind fun t118=>(some t118)) else ((q19.f k bt101.1 bt101.2.1 t116 t117).bind fun t119=>((q25.f k bt101.1 bt101.2.1 t115 t119).bind fun t120=>((q12.f k bt101.2.2.1 bt101.2.2.2 l4).bind fun t123=>((q23.f bt101.1 bt101.2.1 t119 t117 t123).bind fun t126=>((q13.f k t120).bind fun t129=>((q13.f k t126).bind fun t130=>(if (Go.bits .andNot .u32 t129 t115) = 0 then (if (Go.bits .and .u32 (shr .u32 t129 (IntKind.u64.wrap (t116))) 1) = 0 then (q2.j0 k t117 t115 t119 t120 t126 t129 t130 true bt101.1 bt101.2.1) else ((q10.f k t129).bind fun t131=>(if (t120.length:Int) = t131 then ((q10.f k t130).bind fun t132=>(if (t126.length:Int) = t132 then (q2.j0 k t117 t115 t119 t120 t126 t129 t130 ((Go.bits .and .u32 (Go.bits .andNot .u32 t115 t129) t130) != 0) bt101.1 bt101.2.1) else (q2.j0 k t117 t115 t119 t120 t126 t129 t130 true bt101.1 bt101.2.1))) else (q2.j0 k t117 t115 t119 t120 t126 t129 t130 true bt101.1 bt101.2.1)))) else (q2.j0 k t117 t115 t119 t120 t126 t129 t130 true bt101.1 bt101.2.1))))))))) else (none)))))
def q2.T3:Bool × List (List Nat × List Nat):=(true,[([],[]),([],[]),([1],[1]),([2],[2]),([0,3],[0,3]),([],[]),([],[]),([6],[6]),([7],[7]),([5,8,4],[5,8]),([4,9,0,1,2,3,4],[0,4]),([9,10,0,1,2,3,4,5,6,7,8,9,10],[5,9])])
def q2.B3:List Nat:=[0,0,2,6,15,0,0,64,192,511,1023,2047]
theorem imprimaturlaw07_EnterProper.tab3:rtab .any (opsOf Try.f12 3) = q2.T3:=by kernel_rfl
theorem imprimaturlaw07_EnterProper.bits3:waitsOk q2.T3.2 q2.B3 = true:=by kernel_rfl
def q2.T8:Bool × List (List Nat × List Nat):=(true,[([],[]),([],[]),([],[]),([],[]),([],[]),([3,4],[3,4]),([0,1,2,5,5],[0,1,2,5]),([6,6,0,1,2,3,4,5,6],[6])])
def q2.B8:List Nat:=[0,0,0,0,0,24,63,127]
theorem imprimaturlaw07_EnterProper.tab8:rtab .any (opsOf Try.f12 8) = q2.T8:=by kernel_rfl
theorem imprimaturlaw07_EnterProper.bits8:waitsOk q2.T8.2 q2.B8 = true:=by kernel_rfl
def q2.T35:Bool × List (List Nat × List Nat):=(true,[([],[]),([0],[0]),([1],[1]),([1],[1]),([1],[1]),([3,4,1],[1,3,4]),([1],[1]),([5,6,1],[1,5,6]),([2,7,1,1],[1,2,7]),([1,8],[1,8]),([9,8],[9]),([10],[10]),([10],[10]),([12,10,10],[10,12]),([13,13,10],[10,13]),([11,14,14,10],[10,11,14]),([10,15],[10,15]),([16,15],[16]),([17,17],[17]),([17,18],[17,18]),([19,18,0,1,2,3,4,5,6,7,8,9,10,11,12,13,14,15,16,17,18,19],[19])])
def q2.B35:List Nat:=[0,1,3,3,3,27,3,123,255,511,1023,2047,2047,6143,14335,32767,65535,131071,262143,524287,1048575]
theorem imprimaturlaw07_EnterProper.tab35:rtab .any (opsOf Try.f12 35) = q2.T35:=by kernel_rfl
theorem imprimaturlaw07_EnterProper.bits35:waitsOk q2.T35.2 q2.B35 = true:=by kernel_rfl
set_option maxHeartbeats 8000000 in
set_option maxRecDepth 100000 in
theorem q2.calls (k:Nat) (A0:Option Addr) (c0:Nat) (l0:List Int) (A1:Option Addr) (c1:Nat) (l1:List Int) (a2:Int) (a3:Int) (A4:Option Addr) (c4:Nat) (l4:List (List Int)) (r:Bool) (w:World) (hr0:Kd.C (Kd.int .i64) w A0 l0.length l0) (hc0:l0.length ≤ c0) (hr1:Kd.C (Kd.int .i64) w A1 l1.length l1) (hc1:l1.length ≤ c1) (hr4:Kd.C (Kd.slice 3 (Kd.int .i64)) w A4 l4.length l4) (hc4:l4.length ≤ c4) (h:q2.f k l0 l1 a2 a3 l4 = some r) (hrt_:Aside0 (r = true)) :
  Calls Try.prog 12 #[.slice A0 l0.length c0,.slice A1 l1.length c1,.int .i64 a2,.int .i64 a3,.slice A4 l4.length c4] w fun e w'=>e = .returned (.bool r) ∧ Below w.heap.size w w':=by
 have hu24:=Try.underlying24
 have hu25:=Try.underlying25
 have HR0:=Aside0.mk hr0
 have HC0:=Aside0.mk hc0
 clear hr0 hc0
 have HR1:=Aside0.mk hr1
 have HC1:=Aside0.mk hc1
 clear hr1 hc1
 have HR4:=Aside0.mk hr4
 have HC4:=Aside0.mk hc4
 clear hr4 hc4
 have HB:=zk (Below.refl w.heap.size w)
 have H:((q14.f k l0).bind fun bt101=>((q7.f k bt101.2.2.1 bt101.2.2.2 l1).bind fun t115=>((q11.f a2 (bt101.1.length:Int)).bind fun t116=>((q11.f a3 (bt101.1.length:Int)).bind fun t117=>(if 0 ≤ (IntKind.u64.wrap (t116)) then (if (Go.bits .and .u32 (shr .u32 t115 (IntKind.u64.wrap (t116))) 1) = 0 then ((q9.f k).bind fun t118=>(some t118)) else ((q19.f k bt101.1 bt101.2.1 t116 t117).bind fun t119=>((q25.f k bt101.1 bt101.2.1 t115 t119).bind fun t120=>((q12.f k bt101.2.2.1 bt101.2.2.2 l4).bind fun t123=>((q23.f bt101.1 bt101.2.1 t119 t117 t123).bind fun t126=>((q13.f k t120).bind fun t129=>((q13.f k t126).bind fun t130=>(if (Go.bits .andNot .u32 t129 t115) = 0 then (if (Go.bits .and .u32 (shr .u32 t129 (IntKind.u64.wrap (t116))) 1) = 0 then (q2.j0 k t117 t115 t119 t120 t126 t129 t130 true bt101.1 bt101.2.1) else ((q10.f k t129).bind fun t131=>(if (t120.length:Int) = t131 then ((q10.f k t130).bind fun t132=>(if (t126.length:Int) = t132 then (q2.j0 k t117 t115 t119 t120 t126 t129 t130 ((Go.bits .and .u32 (Go.bits .andNot .u32 t115 t129) t130) != 0) bt101.1 bt101.2.1) else (q2.j0 k t117 t115 t119 t120 t126 t129 t130 true bt101.1 bt101.2.1))) else (q2.j0 k t117 t115 t119 t120 t126 t129 t130 true bt101.1 bt101.2.1)))) else (q2.j0 k t117 t115 t119 t120 t126 t129 t130 true bt101.1 bt101.2.1))))))))) else (none)))))) = some r:=h
 clear h
 replace H:=Option.bind_eq_some_iff.mp H
 obtain ⟨⟨t101,t104,t107,t110⟩,A60,H⟩:=H
 replace H:((q7.f k t107 t110 l1).bind fun t115=>((q11.f a2 (t101.length:Int)).bind fun t116=>((q11.f a3 (t101.length:Int)).bind fun t117=>(if 0 ≤ (IntKind.u64.wrap (t116)) then (if (Go.bits .and .u32 (shr .u32 t115 (IntKind.u64.wrap (t116))) 1) = 0 then ((q9.f k).bind fun t118=>(some t118)) else ((q19.f k t101 t104 t116 t117).bind fun t119=>((q25.f k t101 t104 t115 t119).bind fun t120=>((q12.f k t107 t110 l4).bind fun t123=>((q23.f t101 t104 t119 t117 t123).bind fun t126=>((q13.f k t120).bind fun t129=>((q13.f k t126).bind fun t130=>(if (Go.bits .andNot .u32 t129 t115) = 0 then (if (Go.bits .and .u32 (shr .u32 t129 (IntKind.u64.wrap (t116))) 1) = 0 then (q2.j0 k t117 t115 t119 t120 t126 t129 t130 true t101 t104) else ((q10.f k t129).bind fun t131=>(if (t120.length:Int) = t131 then ((q10.f k t130).bind fun t132=>(if (t126.length:Int) = t132 then (q2.j0 k t117 t115 t119 t120 t126 t129 t130 ((Go.bits .and .u32 (Go.bits .andNot .u32 t115 t129) t130) != 0) t101 t104) else (q2.j0 k t117 t115 t119 t120 t126 t129 t130 true t101 t104))) else (q2.j0 k t117 t115 t119 t120 t126 t129 t130 true t101 t104)))) else (q2.j0 k t117 t115 t119 t120 t126 t129 t130 true t101 t104))))))))) else (none))))) = some r:=H
 have A6:=Aside0.mk A60
 clear A60
 replace H:=Option.bind_eq_some_iff.mp H
 obtain ⟨t115,A70,H⟩:=H
 replace H:((q11.f a2 (t101.length:Int)).bind fun t116=>((q11.f a3 (t101.length:Int)).bind fun t117=>(if 0 ≤ (IntKind.u64.wrap (t116)) then (if (Go.bits .and .u32 (shr .u32 t115 (IntKind.u64.wrap (t116))) 1) = 0 then ((q9.f k).bind fun t118=>(some t118)) else ((q19.f k t101 t104 t116 t117).bind fun t119=>((q25.f k t101 t104 t115 t119).bind fun t120=>((q12.f k t107 t110 l4).bind fun t123=>((q23.f t101 t104 t119 t117 t123).bind fun t126=>((q13.f k t120).bind fun t129=>((q13.f k t126).bind fun t130=>(if (Go.bits .andNot .u32 t129 t115) = 0 then (if (Go.bits .and .u32 (shr .u32 t129 (IntKind.u64.wrap (t116))) 1) = 0 then (q2.j0 k t117 t115 t119 t120 t126 t129 t130 true t101 t104) else ((q10.f k t129).bind fun t131=>(if (t120.length:Int) = t131 then ((q10.f k t130).bind fun t132=>(if (t126.length:Int) = t132 then (q2.j0 k t117 t115 t119 t120 t126 t129 t130 ((Go.bits .and .u32 (Go.bits .andNot .u32 t115 t129) t130) != 0) t101 t104) else (q2.j0 k t117 t115 t119 t120 t126 t129 t130 true t101 t104))) else (q2.j0 k t117 t115 t119 t120 t126 t129 t130 true t101 t104)))) else (q2.j0 k t117 t115 t119 t120 t126 t129 t130 true t101 t104))))))))) else (none)))) = some r:=H
 have A7:=Aside0.mk A70
 clear A70
 replace H:=Option.bind_eq_some_iff.mp H
 obtain ⟨t116,A80,H⟩:=H
 replace H:((q11.f a3 (t101.length:Int)).bind fun t117=>(if 0 ≤ (IntKind.u64.wrap (t116)) then (if (Go.bits .and .u32 (shr .u32 t115 (IntKind.u64.wrap (t116))) 1) = 0 then ((q9.f k).bind fun t118=>(some t118)) else ((q19.f k t101 t104 t116 t117).bind fun t119=>((q25.f k t101 t104 t115 t119).bind fun t120=>((q12.f k t107 t110 l4).bind fun t123=>((q23.f t101 t104 t119 t117 t123).bind fun t126=>((q13.f k t120).bind fun t129=>((q13.f k t126).bind fun t130=>(if (Go.bits .andNot .u32 t129 t115) = 0 then (if (Go.bits .and .u32 (shr .u32 t129 (IntKind.u64.wrap (t116))) 1) = 0 then (q2.j0 k t117 t115 t119 t120 t126 t129 t130 true t101 t104) else ((q10.f k t129).bind fun t131=>(if (t120.length:Int) = t131 then ((q10.f k t130).bind fun t132=>(if (t126.length:Int) = t132 then (q2.j0 k t117 t115 t119 t120 t126 t129 t130 ((Go.bits .and .u32 (Go.bits .andNot .u32 t115 t129) t130) != 0) t101 t104) else (q2.j0 k t117 t115 t119 t120 t126 t129 t130 true t101 t104))) else (q2.j0 k t117 t115 t119 t120 t126 t129 t130 true t101 t104)))) else (q2.j0 k t117 t115 t119 t120 t126 t129 t130 true t101 t104))))))))) else (none))) = some r:=H
 have A8:=Aside0.mk A80
 clear A80
 replace H:=Option.bind_eq_some_iff.mp H
 obtain ⟨t117,A90,H⟩:=H
 replace H:(if 0 ≤ (IntKind.u64.wrap (t116)) then (if (Go.bits .and .u32 (shr .u32 t115 (IntKind.u64.wrap (t116))) 1) = 0 then ((q9.f k).bind fun t118=>(some t118)) else ((q19.f k t101 t104 t116 t117).bind fun t119=>((q25.f k t101 t104 t115 t119).bind fun t120=>((q12.f k t107 t110 l4).bind fun t123=>((q23.f t101 t104 t119 t117 t123).bind fun t126=>((q13.f k t120).bind fun t129=>((q13.f k t126).bind fun t130=>(if (Go.bits .andNot .u32 t129 t115) = 0 then (if (Go.bits .and .u32 (shr .u32 t129 (IntKind.u64.wrap (t116))) 1) = 0 then (q2.j0 k t117 t115 t119 t120 t126 t129 t130 true t101 t104) else ((q10.f k t129).bind fun t131=>(if (t120.length:Int) = t131 then ((q10.f k t130).bind fun t132=>(if (t126.length:Int) = t132 then (q2.j0 k t117 t115 t119 t120 t126 t129 t130 ((Go.bits .and .u32 (Go.bits .andNot .u32 t115 t129) t130) != 0) t101 t104) else (q2.j0 k t117 t115 t119 t120 t126 t129 t130 true t101 t104))) else (q2.j0 k t117 t115 t119 t120 t126 t129 t130 true t101 t104)))) else (q2.j0 k t117 t115 t119 t120 t126 t129 t130 true t101 t104))))))))) else (none)) = some r:=H
 have A9:=Aside0.mk A90
 clear A90
 obtain ⟨ji10,hji10⟩:∃ j_:Int,(IntKind.u64.wrap (t116)) = j_:=⟨_,rfl⟩
 replace H:(if 0 ≤ (ji10) then (if (Go.bits .and .u32 (shr .u32 t115 (ji10)) 1) = 0 then ((q9.f k).bind fun t118=>(some t118)) else ((q19.f k t101 t104 t116 t117).bind fun t119=>((q25.f k t101 t104 t115 t119).bind fun t120=>((q12.f k t107 t110 l4).bind fun t123=>((q23.f t101 t104 t119 t117 t123).bind fun t126=>((q13.f k t120).bind fun t129=>((q13.f k t126).bind fun t130=>(if (Go.bits .andNot .u32 t129 t115) = 0 then (if (Go.bits .and .u32 (shr .u32 t129 (ji10)) 1) = 0 then (q2.j0 k t117 t115 t119 t120 t126 t129 t130 true t101 t104) else ((q10.f k t129).bind fun t131=>(if (t120.length:Int) = t131 then ((q10.f k t130).bind fun t132=>(if (t126.length:Int) = t132 then (q2.j0 k t117 t115 t119 t120 t126 t129 t130 ((Go.bits .and .u32 (Go.bits .andNot .u32 t115 t129) t130) != 0) t101 t104) else (q2.j0 k t117 t115 t119 t120 t126 t129 t130 true t101 t104))) else (q2.j0 k t117 t115 t119 t120 t126 t129 t130 true t101 t104)))) else (q2.j0 k t117 t115 t119 t120 t126 t129 t130 true t101 t104))))))))) else (none)) = some r:=by first|(rw [hji10] at H;exact H)|(simp only [hji10] at H ⊢;exact H)
 (try rw [hji10] at A6)
 (try rw [hji10] at A7)
 (try rw [hji10] at A8)
 (try rw [hji10] at A9)
 by_cases c11:0 ≤ (ji10)
 ·rw [if_pos c11] at H
  have c11b0:=eq_true c11
  have c11b1:decide (0 ≤ (ji10)) = true:=decide_eq_true c11
  clear c11
  obtain ⟨ji12,hji12⟩:∃ j_:Int,(shr .u32 t115 (ji10)) = j_:=⟨_,rfl⟩
  replace H:(if (Go.bits .and .u32 (ji12) 1) = 0 then ((q9.f k).bind fun t118=>(some t118)) else ((q19.f k t101 t104 t116 t117).bind fun t119=>((q25.f k t101 t104 t115 t119).bind fun t120=>((q12.f k t107 t110 l4).bind fun t123=>((q23.f t101 t104 t119 t117 t123).bind fun t126=>((q13.f k t120).bind fun t129=>((q13.f k t126).bind fun t130=>(if (Go.bits .andNot .u32 t129 t115) = 0 then (if (Go.bits .and .u32 (shr .u32 t129 (ji10)) 1) = 0 then (q2.j0 k t117 t115 t119 t120 t126 t129 t130 true t101 t104) else ((q10.f k t129).bind fun t131=>(if (t120.length:Int) = t131 then ((q10.f k t130).bind fun t132=>(if (t126.length:Int) = t132 then (q2.j0 k t117 t115 t119 t120 t126 t129 t130 ((Go.bits .and .u32 (Go.bits .andNot .u32 t115 t129) t130) != 0) t101 t104) else (q2.j0 k t117 t115 t119 t120 t126 t129 t130 true t101 t104))) else (q2.j0 k t117 t115 t119 t120 t126 t129 t130 true t101 t104)))) else (q2.j0 k t117 t115 t119 t120 t126 t129 t130 true t101 t104))))))))) = some r:=by first|(rw [hji12] at H;exact H)|(simp only [hji12] at H ⊢;exact H)
  (try rw [hji12] at A6)
  (try rw [hji12] at A7)
  (try rw [hji12] at A8)
  (try rw [hji12] at A9)
  have hji12_:(t115 / 2 ^ min (ji10).toNat 32) = ji12:=hji12
  have hji12z:(ji10) ≤ 32 → (t115 / 2 ^ (ji10).toNat) = ji12:=shr_small hji12
  by_cases c13:(Go.bits .and .u32 (ji12) 1) = 0
  ·rw [if_pos c13] at H
   have c13b0:((Go.bits .and .u32 (ji12) 1) == 0) = true:=beq_iff_eq.mpr c13
   have c13b1:((Go.bits .and .u32 (ji12) 1) != 0) = false:=bne_eq_false_iff_eq.mpr c13
   clear c13
   replace H:=Option.bind_eq_some_iff.mp H
   obtain ⟨t118,A140,H⟩:=H
   replace H:(some t118) = some r:=H
   have A14:=Aside0.mk A140
   clear A140
   obtain rfl:=Option.some.inj H
   go_enter Try.func12,Try.ntmps12
   try go_wp2_with (first|((with_reducible refine gate_callee (f:=13) rfl ?_);refine goesL_ (some 30) rfl rfl Try.func13 (by kernel_rfl) rfl #[.slice A0 l0.length c0] rfl oF ?_;(with_reducible refine (q14.calls k _ _ l0 t101 t104 t107 t110 _ ?side1 ?side2 A6.out).mono ?_);(case side1=>exact cq HR0.out);(case side2=>exact HC0.out);rintro e w15 ⟨v102,v105,v108,v111,rfl,ho0,ho1,ho2,ho3,hb⟩;refine ⟨_,rfl,?_⟩;have n0_:=zk (Kd.R_lower ho0 (below_size (bq HB.out)));have n1_:=zk (Kd.R_lower ho1 (below_size (bq HB.out)));have n2_:=zk (Kd.R_lower ho2 (below_size (bq HB.out)));have n3_:=zk (Kd.R_lower ho3 (below_size (bq HB.out)));have n4_:=zk (below_step (bq HB.out) hb);clear HB;have HO103:=n0_;have HO106:=n1_;have HO109:=n2_;have HO112:=n3_;have HB:=n4_;clear n0_ n1_ n2_ n3_ n4_;(try clear hb);(try clear hb2);(try clear hk);(try clear hi);(try clear ho0);(try clear ho1);(try clear ho2);(try clear ho3))|((with_reducible refine gate_dst (N:=11) rfl ?_);(try (refine gate_guard (by rfl) ?_;dsimp only));refine box_event ?hg (N:=11) ?hd (cs:=#[.slice none 0 0,.slice none 0 0]) (t:=24) ?hr ?_;(case hd=>rfl);(case hg=>rfl);(case hr=>first|(go_simp;done)|(go_simp;rfl));intro gb113 hg w16 hbox hb;have n0_:=zk (Kd.R_below (rq HO103.out) hb);have n1_:=zk (Kd.R_below (rq HO106.out) hb);have n2_:=zk (Kd.R_below (rq HO109.out) hb);have n3_:=zk (Kd.R_below (rq HO112.out) hb);have n4_:=zk (below_step (bq HB.out) hb);have n5_:=zk (hbox);have n6_:=zk ((by rw [hg];exact (below_size (bq HB.out)):w.heap.size ≤ gb113));have n7_:=zk ((by rw [hg];exact (below_size (bq HB.out)):w.heap.size ≤ gb113));clear HO103;clear HO106;clear HO109;clear HO112;clear HB;have HO103:=n0_;have HO106:=n1_;have HO109:=n2_;have HO112:=n3_;have HB:=n4_;have BK113:=n5_;have GW113:=n6_;have GE113:=n7_;clear n0_ n1_ n2_ n3_ n4_ n5_ n6_ n7_;clear hb hbox hg)|((with_reducible refine gate_dst (N:=12) rfl ?_);(try (refine gate_guard (by rfl) ?_;dsimp only));refine box_event ?hg (N:=12) ?hd (cs:=#[.slice none 0 0,.slice none 0 0]) (t:=25) ?hr ?_;(case hd=>rfl);(case hg=>rfl);(case hr=>first|(go_simp;done)|(go_simp;rfl));intro gb114 hg w17 hbox hb;have n0_:=zk (Kd.R_below (rq HO103.out) hb);have n1_:=zk (Kd.R_below (rq HO106.out) hb);have n2_:=zk (Kd.R_below (rq HO109.out) hb);have n3_:=zk (Kd.R_below (rq HO112.out) hb);have n4_:=zk (blk_below (g:=gb113) (o:=.cells #[.slice none 0 0,.slice none 0 0] 24 (0,0)) (hq BK113.out) hb);have n5_:=zk (below_step (bg HB.out GE113 GE113) hb);have n6_:=zk (hbox);have n7_:=zk ((by rw [hg];exact (below_size (bg HB.out GE113 GE113)):w.heap.size ≤ gb114));have n8_:=zk ((by rw [hg];exact (below_size (bg HB.out GE113 GE113)):w.heap.size ≤ gb114));have n9_:=zk ((by rw [hg];exact Nat.ne_of_lt (blk_lt (g:=gb113) (o:=.cells #[.slice none 0 0,.slice none 0 0] 24 (0,0)) (hq BK113.out)):gb113 ≠ gb114));have n10_:=zk ((by rw [hg];exact Nat.ne_of_gt (blk_lt (g:=gb113) (o:=.cells #[.slice none 0 0,.slice none 0 0] 24 (0,0)) (hq BK113.out)):gb114 ≠ gb113));clear HO103;clear HO106;clear HO109;clear HO112;clear BK113;clear HB;have HO103:=n0_;have HO106:=n1_;have HO109:=n2_;have HO112:=n3_;have BK113:=n4_;have HB:=n5_;have BK114:=n6_;have GW114:=n7_;have GE114:=n8_;have NB113_114:=n9_;have NB114_113:=n10_;clear n0_ n1_ n2_ n3_ n4_ n5_ n6_ n7_ n8_ n9_ n10_;clear hb hbox hg;obtain ⟨Ao18,co18,eo18⟩:=Kd.R_slice HO103.out;subst eo18;have hnb19:=NB113_114.out;have hnc19:=NB114_113.out;have hcz20_0:w17.cell? ⟨gb113,0,none⟩ = some (.slice none 0 0):=(blk_cell BK113.out 0).trans rfl;have hcz20_1:w17.cell? ⟨gb113,1,none⟩ = some (.slice none 0 0):=(blk_cell BK113.out 1).trans rfl;have hfz20_0:=blk_frozen BK113.out 0;have hfz20_1:=blk_frozen BK113.out 1;obtain ⟨Ao21,co21,eo21⟩:=Kd.R_slice HO106.out;subst eo21;obtain ⟨Ao22,co22,eo22⟩:=Kd.R_slice HO109.out;subst eo22;have hcz23_0:w17.cell? ⟨gb114,0,none⟩ = some (.slice none 0 0):=(blk_cell BK114.out 0).trans rfl;have hcz23_1:w17.cell? ⟨gb114,1,none⟩ = some (.slice none 0 0):=(blk_cell BK114.out 1).trans rfl;have hfz23_0:=blk_frozen BK114.out 0;have hfz23_1:=blk_frozen BK114.out 1;obtain ⟨Ao24,co24,eo24⟩:=Kd.R_slice HO112.out;subst eo24)|((with_reducible refine gate_callee (f:=18) rfl ?_);refine goesL_ (some 35) rfl rfl Try.func18 (by kernel_rfl) rfl #[.agg #[.slice Ao22 t107.length co22,.slice Ao24 t110.length co24],.slice A1 l1.length c1] rfl oF ?_;(with_reducible refine (q7.calls k _ _ t107 _ _ t110 _ _ l1 t115 _ ?side1 ?side2 ?side3 ?side4 ?side5 ?side6 A7.out).mono ?_);(case side1=>refine (Kd.R_reads' (e:=3) (base:=w.heap.size) (ok:=fun k_=>(some k_ ≠ (.slice Ao18 t101.length co18:Value).ownBlock ∧ (some k_ ≠ (.slice Ao21 t104.length co21:Value).ownBlock ∧ some k_ ≠ (.slice Ao24 t110.length co24:Value).ownBlock))) (n:=t107.length) (c:=co22) ?_).2.2;exact (rq ((Kd.R_mono (Kd.R_mono (Kd.R_far (p:=⟨gb114,1,none⟩) (Kd.R_far (p:=⟨gb114,0,none⟩) (Kd.R_far (p:=⟨gb113,1,none⟩) (Kd.R_far (p:=⟨gb113,0,none⟩) (Kd.R_types (Kd.R_types HO109.out BK113.out (by decide)) BK114.out (by decide)) (fun _ hk=>hk.1.2) (.slice Ao18 t101.length co18)) (fun _ hk=>hk.1.2) (.slice Ao21 t104.length co21)) (fun _ hk=>hk.2) (.slice Ao22 t107.length co22)) (fun _ hk=>hk.2) (.slice Ao24 t110.length co24)) (fun _ h_=>h_.1)) (fun _ h_=>h_.1)))));(case side2=>exact (Kd.R_reads' HO109.out).2.1);(case side3=>refine (Kd.R_reads' (e:=3) (base:=w.heap.size) (ok:=fun k_=>(some k_ ≠ (.slice Ao18 t101.length co18:Value).ownBlock ∧ (some k_ ≠ (.slice Ao21 t104.length co21:Value).ownBlock ∧ some k_ ≠ (.slice Ao22 t107.length co22:Value).ownBlock))) (n:=t110.length) (c:=co24) ?_).2.2;exact (rq ((Kd.R_mono (Kd.R_mono (Kd.R_far (p:=⟨gb114,1,none⟩) (Kd.R_far (p:=⟨gb114,0,none⟩) (Kd.R_far (p:=⟨gb113,1,none⟩) (Kd.R_far (p:=⟨gb113,0,none⟩) (Kd.R_types (Kd.R_types HO112.out BK113.out (by decide)) BK114.out (by decide)) (fun _ hk=>hk.1.2) (.slice Ao18 t101.length co18)) (fun _ hk=>hk.1.2) (.slice Ao21 t104.length co21)) (fun _ hk=>hk.2) (.slice Ao22 t107.length co22)) (fun _ hk=>hk.2) (.slice Ao24 t110.length co24)) (fun _ h_=>h_.1)) (fun _ h_=>h_.1)))));(case side4=>exact (Kd.R_reads' HO112.out).2.1);(case side5=>exact Kd.C_below HR1.out (bg HB.out GE113 GE114));(case side6=>exact HC1.out);rintro e w25 ⟨rfl,hb⟩;refine ⟨_,rfl,?_⟩;have n0_:=zk (Kd.R_below (rq ((Kd.R_mono (Kd.R_mono (Kd.R_far (p:=⟨gb114,1,none⟩) (Kd.R_far (p:=⟨gb114,0,none⟩) (Kd.R_far (p:=⟨gb113,1,none⟩) (Kd.R_far (p:=⟨gb113,0,none⟩) (Kd.R_types (Kd.R_types HO103.out BK113.out (by decide)) BK114.out (by decide)) (fun _ hk=>hk.1.2) (.slice Ao18 t101.length co18)) (fun _ hk=>hk.1.2) (.slice Ao21 t104.length co21)) (fun _ hk=>hk.2) (.slice Ao22 t107.length co22)) (fun _ hk=>hk.2) (.slice Ao24 t110.length co24)) (fun _ h_=>h_.1)) (fun _ h_=>h_.1)))) hb);have n1_:=zk (Kd.R_below (rq ((Kd.R_mono (Kd.R_mono (Kd.R_far (p:=⟨gb114,1,none⟩) (Kd.R_far (p:=⟨gb114,0,none⟩) (Kd.R_far (p:=⟨gb113,1,none⟩) (Kd.R_far (p:=⟨gb113,0,none⟩) (Kd.R_types (Kd.R_types HO106.out BK113.out (by decide)) BK114.out (by decide)) (fun _ hk=>hk.1.2) (.slice Ao18 t101.length co18)) (fun _ hk=>hk.1.2) (.slice Ao21 t104.length co21)) (fun _ hk=>hk.2) (.slice Ao22 t107.length co22)) (fun _ hk=>hk.2) (.slice Ao24 t110.length co24)) (fun _ h_=>h_.1)) (fun _ h_=>h_.1)))) hb);have n2_:=zk (Kd.R_below (rq ((Kd.R_mono (Kd.R_mono (Kd.R_far (p:=⟨gb114,1,none⟩) (Kd.R_far (p:=⟨gb114,0,none⟩) (Kd.R_far (p:=⟨gb113,1,none⟩) (Kd.R_far (p:=⟨gb113,0,none⟩) (Kd.R_types (Kd.R_types HO109.out BK113.out (by decide)) BK114.out (by decide)) (fun _ hk=>hk.1.2) (.slice Ao18 t101.length co18)) (fun _ hk=>hk.1.2) (.slice Ao21 t104.length co21)) (fun _ hk=>hk.2) (.slice Ao22 t107.length co22)) (fun _ hk=>hk.2) (.slice Ao24 t110.length co24)) (fun _ h_=>h_.1)) (fun _ h_=>h_.1)))) hb);have n3_:=zk (Kd.R_below (rq ((Kd.R_mono (Kd.R_mono (Kd.R_far (p:=⟨gb114,1,none⟩) (Kd.R_far (p:=⟨gb114,0,none⟩) (Kd.R_far (p:=⟨gb113,1,none⟩) (Kd.R_far (p:=⟨gb113,0,none⟩) (Kd.R_types (Kd.R_types HO112.out BK113.out (by decide)) BK114.out (by decide)) (fun _ hk=>hk.1.2) (.slice Ao18 t101.length co18)) (fun _ hk=>hk.1.2) (.slice Ao21 t104.length co21)) (fun _ hk=>hk.2) (.slice Ao22 t107.length co22)) (fun _ hk=>hk.2) (.slice Ao24 t110.length co24)) (fun _ h_=>h_.1)) (fun _ h_=>h_.1)))) hb);have n4_:=zk (blk_below (g:=gb113) (o:=.cells #[.slice Ao18 t101.length co18,.slice Ao21 t104.length co21] 24 (0,0)) (by (with_reducible repeat (first|refine blk_drewN ?_ _|refine blk_drew ?_|refine blk_alloc ?_ _));refine blk_far ?_ NB113_114.out _;(with_reducible repeat (first|refine blk_drewN ?_ _|refine blk_drew ?_|refine blk_alloc ?_ _));refine blk_far ?_ NB113_114.out _;(with_reducible repeat (first|refine blk_drewN ?_ _|refine blk_drew ?_|refine blk_alloc ?_ _));refine blk_put (cs:=#[.slice Ao18 t101.length co18,.slice none 0 0]) ?_ 1 _ rfl;(with_reducible repeat (first|refine blk_drewN ?_ _|refine blk_drew ?_|refine blk_alloc ?_ _));refine blk_put (cs:=#[.slice none 0 0,.slice none 0 0]) ?_ 0 _ rfl;(with_reducible repeat (first|refine blk_drewN ?_ _|refine blk_drew ?_|refine blk_alloc ?_ _));exact BK113.out) hb);have n5_:=zk (blk_below (g:=gb114) (o:=.cells #[.slice Ao22 t107.length co22,.slice Ao24 t110.length co24] 25 (0,0)) (by (with_reducible repeat (first|refine blk_drewN ?_ _|refine blk_drew ?_|refine blk_alloc ?_ _));refine blk_put (cs:=#[.slice Ao22 t107.length co22,.slice none 0 0]) ?_ 1 _ rfl;(with_reducible repeat (first|refine blk_drewN ?_ _|refine blk_drew ?_|refine blk_alloc ?_ _));refine blk_put (cs:=#[.slice none 0 0,.slice none 0 0]) ?_ 0 _ rfl;(with_reducible repeat (first|refine blk_drewN ?_ _|refine blk_drew ?_|refine blk_alloc ?_ _));refine blk_far ?_ NB114_113.out _;(with_reducible repeat (first|refine blk_drewN ?_ _|refine blk_drew ?_|refine blk_alloc ?_ _));refine blk_far ?_ NB114_113.out _;(with_reducible repeat (first|refine blk_drewN ?_ _|refine blk_drew ?_|refine blk_alloc ?_ _));exact BK114.out) hb);have n6_:=zk (below_step (bg HB.out GE113 GE114) hb);clear HO103;clear HO106;clear HO109;clear HO112;clear BK113;clear BK114;clear HB;have HO103:=n0_;have HO106:=n1_;have HO109:=n2_;have HO112:=n3_;have BK113:=n4_;have BK114:=n5_;have HB:=n6_;clear n0_ n1_ n2_ n3_ n4_ n5_ n6_;(try clear hb);(try clear hb2);(try clear hk);(try clear hi)))
   have n0_:=zk (Kd.R_drew HO103.out)
   have n1_:=zk (Kd.R_drew HO106.out)
   have n2_:=zk (Kd.R_drew HO109.out)
   have n3_:=zk (Kd.R_drew HO112.out)
   have n4_:=zk (blk_drew BK113.out)
   have n5_:=zk (blk_drew BK114.out)
   have n6_:=zk (below_drew1 HB.out)
   clear HO103
   clear HO106
   clear HO109
   clear HO112
   clear BK113
   clear BK114
   clear HB
   have HO103:=n0_
   have HO106:=n1_
   have HO109:=n2_
   have HO112:=n3_
   have BK113:=n4_
   have BK114:=n5_
   have HB:=n6_
   clear n0_ n1_ n2_ n3_ n4_ n5_ n6_
   refine start_ (n:=12) (S:=fun w'=>w'.cell? ⟨gb113,0,none⟩ = some (.slice Ao18 t101.length co18) ∧ w'.cell? ⟨gb113,1,none⟩ = some (.slice Ao21 t104.length co21)) (ds:=[]) #[false,false,false,false,false,false,false,false,false,false,false,false] (by kernel_rfl) rfl rfl ⟨(blk_cell BK113.out 0).trans rfl,(blk_cell BK113.out 1).trans rfl⟩ (fun hHeld=>?_);refine with_tabW imprimaturlaw07_EnterProper.tab3 imprimaturlaw07_EnterProper.bits3 (fun HT_ HW_=>?_)
   generalize w25.drew = w26 at HO103 HO106 HO109 HO112 BK113 BK114 HB hHeld ⊢
   refine pure_ (i:=0) (N:=some 36) (v:=?_) (a':=?_) #[true,false,false,false,false,false,false,false,false,false,false,false] rfl rfl (any_of HT_.out (by kernel_rfl)) (fun _ _ _ h=>h) (Or.inl ⟨by rfl,?_⟩) ?_ ?_
   rotate_left
   ·intro w'
    go_simp
    with_reducible rfl
   rotate_left
   ·simp only [Act.put,List.setIfInBounds_toArray,List.set_cons_zero,List.set_cons_succ,i64_w,i32_w]
    rfl
   refine pure_ (i:=1) (N:=some 37) (v:=?_) (a':=?_) #[true,true,false,false,false,false,false,false,false,false,false,false] rfl rfl (any_of HT_.out (by kernel_rfl)) (fun _ _ _ h=>h) (Or.inl ⟨by rfl,?_⟩) ?_ ?_
   rotate_left
   ·intro w'
    go_simp
    with_reducible rfl
   rotate_left
   ·simp only [Act.put,List.setIfInBounds_toArray,List.set_cons_zero,List.set_cons_succ,i64_w,i32_w]
    rfl
   refine pure_ (i:=5) (N:=some 41) (v:=?_) (a':=?_) #[true,true,false,false,false,true,false,false,false,false,false,false] rfl rfl (any_of HT_.out (by kernel_rfl)) (fun _ _ _ h=>h) (Or.inl ⟨by rfl,?_⟩) ?_ ?_
   rotate_left
   ·intro w'
    go_simp
    with_reducible rfl
   rotate_left
   ·simp only [Act.put,List.setIfInBounds_toArray,List.set_cons_zero,List.set_cons_succ,i64_w,i32_w]
    rfl
   refine pure_ (i:=6) (N:=some 42) (v:=?_) (a':=?_) #[true,true,false,false,false,true,true,false,false,false,false,false] rfl rfl (any_of HT_.out (by kernel_rfl)) (fun _ _ _ h=>h) (Or.inl ⟨by rfl,?_⟩) ?_ ?_
   rotate_left
   ·intro w'
    go_simp
    with_reducible rfl
   rotate_left
   ·simp only [Act.put,List.setIfInBounds_toArray,List.set_cons_zero,List.set_cons_succ,i64_w,i32_w]
    rfl
   refine take_ (i:=2) (N:=some 38) (v:=?_) (a':=?_) #[true,true,true,false,false,true,true,false,false,false,false,false] rfl rfl (take_ofW HT_.out HW_.out (by kernel_rfl)) (fun _ _ _ h=>h) (Or.inl ⟨by rfl,?_⟩) hHeld ?_ ?_
   rotate_left
   ·rintro w' ⟨s0,s1⟩
    go_simp
    with_reducible rfl
   rotate_left
   ·simp only [Act.put,List.setIfInBounds_toArray,List.set_cons_zero,List.set_cons_succ,i64_w,i32_w]
    rfl
   refine pure_ (i:=3) (N:=some 39) (v:=?_) (a':=?_) #[true,true,true,true,false,true,true,false,false,false,false,false] rfl rfl (any_of HT_.out (by kernel_rfl)) (fun _ _ _ h=>h) (Or.inl ⟨by rfl,?_⟩) ?_ ?_
   rotate_left
   ·intro w'
    go_simp
    with_reducible rfl
   rotate_left
   ·simp only [Act.put,List.setIfInBounds_toArray,List.set_cons_zero,List.set_cons_succ,i64_w,i32_w]
    rfl
   refine take_ (i:=7) (N:=some 43) (v:=?_) (a':=?_) #[true,true,true,true,false,true,true,true,false,false,false,false] rfl rfl (take_ofW HT_.out HW_.out (by kernel_rfl)) (fun _ _ _ h=>h) (Or.inl ⟨by rfl,?_⟩) hHeld ?_ ?_
   rotate_left
   ·rintro w' ⟨s0,s1⟩
    go_simp
    with_reducible rfl
   rotate_left
   ·simp only [Act.put,List.setIfInBounds_toArray,List.set_cons_zero,List.set_cons_succ,i64_w,i32_w]
    rfl
   refine pure_ (i:=8) (N:=some 44) (v:=?_) (a':=?_) #[true,true,true,true,false,true,true,true,true,false,false,false] rfl rfl (any_of HT_.out (by kernel_rfl)) (fun _ _ _ h=>h) (Or.inl ⟨by rfl,?_⟩) ?_ ?_
   rotate_left
   ·intro w'
    go_simp
    with_reducible rfl
   rotate_left
   ·simp only [Act.put,List.setIfInBounds_toArray,List.set_cons_zero,List.set_cons_succ,i64_w,i32_w]
    rfl
   refine one_ (i:=4) (N:=some 40) #[true,true,true,true,true,true,true,true,true,false,false,false] rfl rfl (one_of HT_.out (by kernel_rfl)) (by decide) (fun K hK=>?_)
   refine goes_ Try.func19 (by kernel_rfl) rfl #[.int .i64 a2,.int .i64 (t101.length:Int)] (by rfl) rfl rfl oF ?_
   with_reducible refine (q11.calls a2 (t101.length:Int) t116 _ A8.out).mono ?_
   rintro e w' ⟨rfl,⟨nd,rfl⟩⟩
   refine ⟨_,rfl,?_⟩
   refine hK.out _ _ ⟨(blk_cell BK113.out 0).trans rfl,(blk_cell BK113.out 1).trans rfl⟩ (fun hHeld=>?_)
   clear hK K
   refine norm_ (a':=?_) ?_ ?_
   rotate_left
   ·show Act.put _ (some 40) _ = _
    simp only [Act.put,List.setIfInBounds_toArray,List.set_cons_zero,List.set_cons_succ,i64_w,i32_w]
    rfl
   refine one_ (i:=9) (N:=some 45) #[true,true,true,true,true,true,true,true,true,true,false,false] rfl rfl (one_of HT_.out (by kernel_rfl)) (by decide) (fun K hK=>?_)
   refine goes_ Try.func19 (by kernel_rfl) rfl #[.int .i64 a3,.int .i64 (t101.length:Int)] (by rfl) rfl rfl oF ?_
   with_reducible refine (q11.calls a3 (t101.length:Int) t117 _ A9.out).mono ?_
   rintro e w' ⟨rfl,⟨nd,rfl⟩⟩
   refine ⟨_,rfl,?_⟩
   refine hK.out _ _ ⟨(blk_cell BK113.out 0).trans rfl,(blk_cell BK113.out 1).trans rfl⟩ (fun hHeld=>?_)
   clear hK K
   refine norm_ (a':=?_) ?_ ?_
   rotate_left
   ·show Act.put _ (some 45) _ = _
    simp only [Act.put,List.setIfInBounds_toArray,List.set_cons_zero,List.set_cons_succ,i64_w,i32_w]
    rfl
   refine pure_ (i:=10) (N:=some 2) (v:=?_) (a':=?_) #[true,true,true,true,true,true,true,true,true,true,true,false] rfl rfl (any_of HT_.out (by kernel_rfl)) (fun _ _ _ h=>h) (Or.inl ⟨by rfl,?_⟩) ?_ ?_
   rotate_left
   ·intro w'
    go_simp
    with_reducible rfl
   rotate_left
   ·simp only [Act.put,List.setIfInBounds_toArray,List.set_cons_zero,List.set_cons_succ,i64_w,i32_w]
    rfl
   refine pure_ (i:=11) (N:=some 3) (v:=?_) (a':=?_) #[true,true,true,true,true,true,true,true,true,true,true,true] rfl rfl (any_of HT_.out (by kernel_rfl)) (fun _ _ _ h=>h) (Or.inl ⟨by rfl,?_⟩) ?_ ?_
   rotate_left
   ·intro w'
    go_simp
    with_reducible rfl
   rotate_left
   ·simp only [Act.put,List.setIfInBounds_toArray,List.set_cons_zero,List.set_cons_succ,i64_w,i32_w]
    rfl
   refine done_ (done_of HT_.out (by kernel_rfl)) ?_
   try go_wp2_with (first|((with_reducible refine gate_callee (f:=28) rfl ?_);refine goesL_ (some 52) rfl rfl Try.func28 (by kernel_rfl) rfl #[] rfl oF ?_;(with_reducible refine (q9.calls k  t118 _ A14.out).mono ?_);rintro e w27 ⟨rfl,hb⟩;refine ⟨_,rfl,?_⟩;have n0_:=zk (Kd.R_below (rq HO103.out) hb);have n1_:=zk (Kd.R_below (rq HO106.out) hb);have n2_:=zk (Kd.R_below (rq HO109.out) hb);have n3_:=zk (Kd.R_below (rq HO112.out) hb);have n4_:=zk (blk_below (g:=gb113) (o:=.cells #[.slice Ao18 t101.length co18,.slice Ao21 t104.length co21] 24 (0,0)) (hq BK113.out) hb);have n5_:=zk (blk_below (g:=gb114) (o:=.cells #[.slice Ao22 t107.length co22,.slice Ao24 t110.length co24] 25 (0,0)) (hq BK114.out) hb);have n6_:=zk (below_step (bg HB.out GE113 GE114) hb);clear HO103;clear HO106;clear HO109;clear HO112;clear BK113;clear BK114;clear HB;have HO103:=n0_;have HO106:=n1_;have HO109:=n2_;have HO112:=n3_;have BK113:=n4_;have BK114:=n5_;have HB:=n6_;clear n0_ n1_ n2_ n3_ n4_ n5_ n6_;(try clear hb);(try clear hb2);(try clear hk);(try clear hi)))
   go_ret
   exact ⟨by first|rfl|(simp [errW_none,errW_some] <;> rfl)|(simp only [← hji10,← hji12];first|rfl|(simp [errW_none,errW_some] <;> rfl))|(simp [*,errW_none,errW_some] <;> rfl),bg HB.out GE113 GE114⟩
  ·rw [if_neg c13] at H
   have c13b0:((Go.bits .and .u32 (ji12) 1) == 0) = false:=beq_eq_false_iff_ne.mpr c13
   have c13b1:((Go.bits .and .u32 (ji12) 1) != 0) = true:=bne_iff_ne.mpr c13
   replace H:=Option.bind_eq_some_iff.mp H
   obtain ⟨t119,A280,H⟩:=H
   replace H:((q25.f k t101 t104 t115 t119).bind fun t120=>((q12.f k t107 t110 l4).bind fun t123=>((q23.f t101 t104 t119 t117 t123).bind fun t126=>((q13.f k t120).bind fun t129=>((q13.f k t126).bind fun t130=>(if (Go.bits .andNot .u32 t129 t115) = 0 then (if (Go.bits .and .u32 (shr .u32 t129 (ji10)) 1) = 0 then (q2.j0 k t117 t115 t119 t120 t126 t129 t130 true t101 t104) else ((q10.f k t129).bind fun t131=>(if (t120.length:Int) = t131 then ((q10.f k t130).bind fun t132=>(if (t126.length:Int) = t132 then (q2.j0 k t117 t115 t119 t120 t126 t129 t130 ((Go.bits .and .u32 (Go.bits .andNot .u32 t115 t129) t130) != 0) t101 t104) else (q2.j0 k t117 t115 t119 t120 t126 t129 t130 true t101 t104))) else (q2.j0 k t117 t115 t119 t120 t126 t129 t130 true t101 t104)))) else (q2.j0 k t117 t115 t119 t120 t126 t129 t130 true t101 t104))))))) = some r:=H
   have A28:=Aside0.mk A280
   clear A280
   replace H:=Option.bind_eq_some_iff.mp H
   obtain ⟨t120,A290,H⟩:=H
   replace H:((q12.f k t107 t110 l4).bind fun t123=>((q23.f t101 t104 t119 t117 t123).bind fun t126=>((q13.f k t120).bind fun t129=>((q13.f k t126).bind fun t130=>(if (Go.bits .andNot .u32 t129 t115) = 0 then (if (Go.bits .and .u32 (shr .u32 t129 (ji10)) 1) = 0 then (q2.j0 k t117 t115 t119 t120 t126 t129 t130 true t101 t104) else ((q10.f k t129).bind fun t131=>(if (t120.length:Int) = t131 then ((q10.f k t130).bind fun t132=>(if (t126.length:Int) = t132 then (q2.j0 k t117 t115 t119 t120 t126 t129 t130 ((Go.bits .and .u32 (Go.bits .andNot .u32 t115 t129) t130) != 0) t101 t104) else (q2.j0 k t117 t115 t119 t120 t126 t129 t130 true t101 t104))) else (q2.j0 k t117 t115 t119 t120 t126 t129 t130 true t101 t104)))) else (q2.j0 k t117 t115 t119 t120 t126 t129 t130 true t101 t104)))))) = some r:=H
   have A29:=Aside0.mk A290
   clear A290
   replace H:=Option.bind_eq_some_iff.mp H
   obtain ⟨t123,A300,H⟩:=H
   replace H:((q23.f t101 t104 t119 t117 t123).bind fun t126=>((q13.f k t120).bind fun t129=>((q13.f k t126).bind fun t130=>(if (Go.bits .andNot .u32 t129 t115) = 0 then (if (Go.bits .and .u32 (shr .u32 t129 (ji10)) 1) = 0 then (q2.j0 k t117 t115 t119 t120 t126 t129 t130 true t101 t104) else ((q10.f k t129).bind fun t131=>(if (t120.length:Int) = t131 then ((q10.f k t130).bind fun t132=>(if (t126.length:Int) = t132 then (q2.j0 k t117 t115 t119 t120 t126 t129 t130 ((Go.bits .and .u32 (Go.bits .andNot .u32 t115 t129) t130) != 0) t101 t104) else (q2.j0 k t117 t115 t119 t120 t126 t129 t130 true t101 t104))) else (q2.j0 k t117 t115 t119 t120 t126 t129 t130 true t101 t104)))) else (q2.j0 k t117 t115 t119 t120 t126 t129 t130 true t101 t104))))) = some r:=H
   have A30:=Aside0.mk A300
   clear A300
   replace H:=Option.bind_eq_some_iff.mp H
   obtain ⟨t126,A310,H⟩:=H
   replace H:((q13.f k t120).bind fun t129=>((q13.f k t126).bind fun t130=>(if (Go.bits .andNot .u32 t129 t115) = 0 then (if (Go.bits .and .u32 (shr .u32 t129 (ji10)) 1) = 0 then (q2.j0 k t117 t115 t119 t120 t126 t129 t130 true t101 t104) else ((q10.f k t129).bind fun t131=>(if (t120.length:Int) = t131 then ((q10.f k t130).bind fun t132=>(if (t126.length:Int) = t132 then (q2.j0 k t117 t115 t119 t120 t126 t129 t130 ((Go.bits .and .u32 (Go.bits .andNot .u32 t115 t129) t130) != 0) t101 t104) else (q2.j0 k t117 t115 t119 t120 t126 t129 t130 true t101 t104))) else (q2.j0 k t117 t115 t119 t120 t126 t129 t130 true t101 t104)))) else (q2.j0 k t117 t115 t119 t120 t126 t129 t130 true t101 t104)))) = some r:=H
   have A31:=Aside0.mk A310
   clear A310
   replace H:=Option.bind_eq_some_iff.mp H
   obtain ⟨t129,A320,H⟩:=H
   replace H:((q13.f k t126).bind fun t130=>(if (Go.bits .andNot .u32 t129 t115) = 0 then (if (Go.bits .and .u32 (shr .u32 t129 (ji10)) 1) = 0 then (q2.j0 k t117 t115 t119 t120 t126 t129 t130 true t101 t104) else ((q10.f k t129).bind fun t131=>(if (t120.length:Int) = t131 then ((q10.f k t130).bind fun t132=>(if (t126.length:Int) = t132 then (q2.j0 k t117 t115 t119 t120 t126 t129 t130 ((Go.bits .and .u32 (Go.bits .andNot .u32 t115 t129) t130) != 0) t101 t104) else (q2.j0 k t117 t115 t119 t120 t126 t129 t130 true t101 t104))) else (q2.j0 k t117 t115 t119 t120 t126 t129 t130 true t101 t104)))) else (q2.j0 k t117 t115 t119 t120 t126 t129 t130 true t101 t104))) = some r:=H
   have A32:=Aside0.mk A320
   clear A320
   replace H:=Option.bind_eq_some_iff.mp H
   obtain ⟨t130,A330,H⟩:=H
   replace H:(if (Go.bits .andNot .u32 t129 t115) = 0 then (if (Go.bits .and .u32 (shr .u32 t129 (ji10)) 1) = 0 then (q2.j0 k t117 t115 t119 t120 t126 t129 t130 true t101 t104) else ((q10.f k t129).bind fun t131=>(if (t120.length:Int) = t131 then ((q10.f k t130).bind fun t132=>(if (t126.length:Int) = t132 then (q2.j0 k t117 t115 t119 t120 t126 t129 t130 ((Go.bits .and .u32 (Go.bits .andNot .u32 t115 t129) t130) != 0) t101 t104) else (q2.j0 k t117 t115 t119 t120 t126 t129 t130 true t101 t104))) else (q2.j0 k t117 t115 t119 t120 t126 t129 t130 true t101 t104)))) else (q2.j0 k t117 t115 t119 t120 t126 t129 t130 true t101 t104)) = some r:=H
   have A33:=Aside0.mk A330
   clear A330
   have HC34:=Aside0.mk H
   clear H
   go_enter Try.func12,Try.ntmps12
   try go_wp2_with (first|((with_reducible refine gate_callee (f:=13) rfl ?_);refine goesL_ (some 30) rfl rfl Try.func13 (by kernel_rfl) rfl #[.slice A0 l0.length c0] rfl oF ?_;(with_reducible refine (q14.calls k _ _ l0 t101 t104 t107 t110 _ ?side1 ?side2 A6.out).mono ?_);(case side1=>exact cq HR0.out);(case side2=>exact HC0.out);rintro e w35 ⟨v102,v105,v108,v111,rfl,ho0,ho1,ho2,ho3,hb⟩;refine ⟨_,rfl,?_⟩;have n0_:=zk (Kd.R_lower ho0 (below_size (bq HB.out)));have n1_:=zk (Kd.R_lower ho1 (below_size (bq HB.out)));have n2_:=zk (Kd.R_lower ho2 (below_size (bq HB.out)));have n3_:=zk (Kd.R_lower ho3 (below_size (bq HB.out)));have n4_:=zk (below_step (bq HB.out) hb);clear HB;have HO103:=n0_;have HO106:=n1_;have HO109:=n2_;have HO112:=n3_;have HB:=n4_;clear n0_ n1_ n2_ n3_ n4_;(try clear hb);(try clear hb2);(try clear hk);(try clear hi);(try clear ho0);(try clear ho1);(try clear ho2);(try clear ho3))|((with_reducible refine gate_dst (N:=11) rfl ?_);(try (refine gate_guard (by rfl) ?_;dsimp only));refine box_event ?hg (N:=11) ?hd (cs:=#[.slice none 0 0,.slice none 0 0]) (t:=24) ?hr ?_;(case hd=>rfl);(case hg=>rfl);(case hr=>first|(go_simp;done)|(go_simp;rfl));intro gb113 hg w36 hbox hb;have n0_:=zk (Kd.R_below (rq HO103.out) hb);have n1_:=zk (Kd.R_below (rq HO106.out) hb);have n2_:=zk (Kd.R_below (rq HO109.out) hb);have n3_:=zk (Kd.R_below (rq HO112.out) hb);have n4_:=zk (below_step (bq HB.out) hb);have n5_:=zk (hbox);have n6_:=zk ((by rw [hg];exact (below_size (bq HB.out)):w.heap.size ≤ gb113));have n7_:=zk ((by rw [hg];exact (below_size (bq HB.out)):w.heap.size ≤ gb113));clear HO103;clear HO106;clear HO109;clear HO112;clear HB;have HO103:=n0_;have HO106:=n1_;have HO109:=n2_;have HO112:=n3_;have HB:=n4_;have BK113:=n5_;have GW113:=n6_;have GE113:=n7_;clear n0_ n1_ n2_ n3_ n4_ n5_ n6_ n7_;clear hb hbox hg)|((with_reducible refine gate_dst (N:=12) rfl ?_);(try (refine gate_guard (by rfl) ?_;dsimp only));refine box_event ?hg (N:=12) ?hd (cs:=#[.slice none 0 0,.slice none 0 0]) (t:=25) ?hr ?_;(case hd=>rfl);(case hg=>rfl);(case hr=>first|(go_simp;done)|(go_simp;rfl));intro gb114 hg w37 hbox hb;have n0_:=zk (Kd.R_below (rq HO103.out) hb);have n1_:=zk (Kd.R_below (rq HO106.out) hb);have n2_:=zk (Kd.R_below (rq HO109.out) hb);have n3_:=zk (Kd.R_below (rq HO112.out) hb);have n4_:=zk (blk_below (g:=gb113) (o:=.cells #[.slice none 0 0,.slice none 0 0] 24 (0,0)) (hq BK113.out) hb);have n5_:=zk (below_step (bg HB.out GE113 GE113) hb);have n6_:=zk (hbox);have n7_:=zk ((by rw [hg];exact (below_size (bg HB.out GE113 GE113)):w.heap.size ≤ gb114));have n8_:=zk ((by rw [hg];exact (below_size (bg HB.out GE113 GE113)):w.heap.size ≤ gb114));have n9_:=zk ((by rw [hg];exact Nat.ne_of_lt (blk_lt (g:=gb113) (o:=.cells #[.slice none 0 0,.slice none 0 0] 24 (0,0)) (hq BK113.out)):gb113 ≠ gb114));have n10_:=zk ((by rw [hg];exact Nat.ne_of_gt (blk_lt (g:=gb113) (o:=.cells #[.slice none 0 0,.slice none 0 0] 24 (0,0)) (hq BK113.out)):gb114 ≠ gb113));clear HO103;clear HO106;clear HO109;clear HO112;clear BK113;clear HB;have HO103:=n0_;have HO106:=n1_;have HO109:=n2_;have HO112:=n3_;have BK113:=n4_;have HB:=n5_;have BK114:=n6_;have GW114:=n7_;have GE114:=n8_;have NB113_114:=n9_;have NB114_113:=n10_;clear n0_ n1_ n2_ n3_ n4_ n5_ n6_ n7_ n8_ n9_ n10_;clear hb hbox hg;obtain ⟨Ao38,co38,eo38⟩:=Kd.R_slice HO103.out;subst eo38;have hnb39:=NB113_114.out;have hnc39:=NB114_113.out;have hcz40_0:w37.cell? ⟨gb113,0,none⟩ = some (.slice none 0 0):=(blk_cell BK113.out 0).trans rfl;have hcz40_1:w37.cell? ⟨gb113,1,none⟩ = some (.slice none 0 0):=(blk_cell BK113.out 1).trans rfl;have hfz40_0:=blk_frozen BK113.out 0;have hfz40_1:=blk_frozen BK113.out 1;obtain ⟨Ao41,co41,eo41⟩:=Kd.R_slice HO106.out;subst eo41;obtain ⟨Ao42,co42,eo42⟩:=Kd.R_slice HO109.out;subst eo42;have hcz43_0:w37.cell? ⟨gb114,0,none⟩ = some (.slice none 0 0):=(blk_cell BK114.out 0).trans rfl;have hcz43_1:w37.cell? ⟨gb114,1,none⟩ = some (.slice none 0 0):=(blk_cell BK114.out 1).trans rfl;have hfz43_0:=blk_frozen BK114.out 0;have hfz43_1:=blk_frozen BK114.out 1;obtain ⟨Ao44,co44,eo44⟩:=Kd.R_slice HO112.out;subst eo44)|((with_reducible refine gate_callee (f:=18) rfl ?_);refine goesL_ (some 35) rfl rfl Try.func18 (by kernel_rfl) rfl #[.agg #[.slice Ao42 t107.length co42,.slice Ao44 t110.length co44],.slice A1 l1.length c1] rfl oF ?_;(with_reducible refine (q7.calls k _ _ t107 _ _ t110 _ _ l1 t115 _ ?side1 ?side2 ?side3 ?side4 ?side5 ?side6 A7.out).mono ?_);(case side1=>refine (Kd.R_reads' (e:=3) (base:=w.heap.size) (ok:=fun k_=>(some k_ ≠ (.slice Ao38 t101.length co38:Value).ownBlock ∧ (some k_ ≠ (.slice Ao41 t104.length co41:Value).ownBlock ∧ some k_ ≠ (.slice Ao44 t110.length co44:Value).ownBlock))) (n:=t107.length) (c:=co42) ?_).2.2;exact (rq ((Kd.R_mono (Kd.R_mono (Kd.R_far (p:=⟨gb114,1,none⟩) (Kd.R_far (p:=⟨gb114,0,none⟩) (Kd.R_far (p:=⟨gb113,1,none⟩) (Kd.R_far (p:=⟨gb113,0,none⟩) (Kd.R_types (Kd.R_types HO109.out BK113.out (by decide)) BK114.out (by decide)) (fun _ hk=>hk.1.2) (.slice Ao38 t101.length co38)) (fun _ hk=>hk.1.2) (.slice Ao41 t104.length co41)) (fun _ hk=>hk.2) (.slice Ao42 t107.length co42)) (fun _ hk=>hk.2) (.slice Ao44 t110.length co44)) (fun _ h_=>h_.1)) (fun _ h_=>h_.1)))));(case side2=>exact (Kd.R_reads' HO109.out).2.1);(case side3=>refine (Kd.R_reads' (e:=3) (base:=w.heap.size) (ok:=fun k_=>(some k_ ≠ (.slice Ao38 t101.length co38:Value).ownBlock ∧ (some k_ ≠ (.slice Ao41 t104.length co41:Value).ownBlock ∧ some k_ ≠ (.slice Ao42 t107.length co42:Value).ownBlock))) (n:=t110.length) (c:=co44) ?_).2.2;exact (rq ((Kd.R_mono (Kd.R_mono (Kd.R_far (p:=⟨gb114,1,none⟩) (Kd.R_far (p:=⟨gb114,0,none⟩) (Kd.R_far (p:=⟨gb113,1,none⟩) (Kd.R_far (p:=⟨gb113,0,none⟩) (Kd.R_types (Kd.R_types HO112.out BK113.out (by decide)) BK114.out (by decide)) (fun _ hk=>hk.1.2) (.slice Ao38 t101.length co38)) (fun _ hk=>hk.1.2) (.slice Ao41 t104.length co41)) (fun _ hk=>hk.2) (.slice Ao42 t107.length co42)) (fun _ hk=>hk.2) (.slice Ao44 t110.length co44)) (fun _ h_=>h_.1)) (fun _ h_=>h_.1)))));(case side4=>exact (Kd.R_reads' HO112.out).2.1);(case side5=>exact Kd.C_below HR1.out (bg HB.out GE113 GE114));(case side6=>exact HC1.out);rintro e w45 ⟨rfl,hb⟩;refine ⟨_,rfl,?_⟩;have n0_:=zk (Kd.R_below (rq ((Kd.R_mono (Kd.R_mono (Kd.R_far (p:=⟨gb114,1,none⟩) (Kd.R_far (p:=⟨gb114,0,none⟩) (Kd.R_far (p:=⟨gb113,1,none⟩) (Kd.R_far (p:=⟨gb113,0,none⟩) (Kd.R_types (Kd.R_types HO103.out BK113.out (by decide)) BK114.out (by decide)) (fun _ hk=>hk.1.2) (.slice Ao38 t101.length co38)) (fun _ hk=>hk.1.2) (.slice Ao41 t104.length co41)) (fun _ hk=>hk.2) (.slice Ao42 t107.length co42)) (fun _ hk=>hk.2) (.slice Ao44 t110.length co44)) (fun _ h_=>h_.1)) (fun _ h_=>h_.1)))) hb);have n1_:=zk (Kd.R_below (rq ((Kd.R_mono (Kd.R_mono (Kd.R_far (p:=⟨gb114,1,none⟩) (Kd.R_far (p:=⟨gb114,0,none⟩) (Kd.R_far (p:=⟨gb113,1,none⟩) (Kd.R_far (p:=⟨gb113,0,none⟩) (Kd.R_types (Kd.R_types HO106.out BK113.out (by decide)) BK114.out (by decide)) (fun _ hk=>hk.1.2) (.slice Ao38 t101.length co38)) (fun _ hk=>hk.1.2) (.slice Ao41 t104.length co41)) (fun _ hk=>hk.2) (.slice Ao42 t107.length co42)) (fun _ hk=>hk.2) (.slice Ao44 t110.length co44)) (fun _ h_=>h_.1)) (fun _ h_=>h_.1)))) hb);have n2_:=zk (Kd.R_below (rq ((Kd.R_mono (Kd.R_mono (Kd.R_far (p:=⟨gb114,1,none⟩) (Kd.R_far (p:=⟨gb114,0,none⟩) (Kd.R_far (p:=⟨gb113,1,none⟩) (Kd.R_far (p:=⟨gb113,0,none⟩) (Kd.R_types (Kd.R_types HO109.out BK113.out (by decide)) BK114.out (by decide)) (fun _ hk=>hk.1.2) (.slice Ao38 t101.length co38)) (fun _ hk=>hk.1.2) (.slice Ao41 t104.length co41)) (fun _ hk=>hk.2) (.slice Ao42 t107.length co42)) (fun _ hk=>hk.2) (.slice Ao44 t110.length co44)) (fun _ h_=>h_.1)) (fun _ h_=>h_.1)))) hb);have n3_:=zk (Kd.R_below (rq ((Kd.R_mono (Kd.R_mono (Kd.R_far (p:=⟨gb114,1,none⟩) (Kd.R_far (p:=⟨gb114,0,none⟩) (Kd.R_far (p:=⟨gb113,1,none⟩) (Kd.R_far (p:=⟨gb113,0,none⟩) (Kd.R_types (Kd.R_types HO112.out BK113.out (by decide)) BK114.out (by decide)) (fun _ hk=>hk.1.2) (.slice Ao38 t101.length co38)) (fun _ hk=>hk.1.2) (.slice Ao41 t104.length co41)) (fun _ hk=>hk.2) (.slice Ao42 t107.length co42)) (fun _ hk=>hk.2) (.slice Ao44 t110.length co44)) (fun _ h_=>h_.1)) (fun _ h_=>h_.1)))) hb);have n4_:=zk (blk_below (g:=gb113) (o:=.cells #[.slice Ao38 t101.length co38,.slice Ao41 t104.length co41] 24 (0,0)) (by (with_reducible repeat (first|refine blk_drewN ?_ _|refine blk_drew ?_|refine blk_alloc ?_ _));refine blk_far ?_ NB113_114.out _;(with_reducible repeat (first|refine blk_drewN ?_ _|refine blk_drew ?_|refine blk_alloc ?_ _));refine blk_far ?_ NB113_114.out _;(with_reducible repeat (first|refine blk_drewN ?_ _|refine blk_drew ?_|refine blk_alloc ?_ _));refine blk_put (cs:=#[.slice Ao38 t101.length co38,.slice none 0 0]) ?_ 1 _ rfl;(with_reducible repeat (first|refine blk_drewN ?_ _|refine blk_drew ?_|refine blk_alloc ?_ _));refine blk_put (cs:=#[.slice none 0 0,.slice none 0 0]) ?_ 0 _ rfl;(with_reducible repeat (first|refine blk_drewN ?_ _|refine blk_drew ?_|refine blk_alloc ?_ _));exact BK113.out) hb);have n5_:=zk (blk_below (g:=gb114) (o:=.cells #[.slice Ao42 t107.length co42,.slice Ao44 t110.length co44] 25 (0,0)) (by (with_reducible repeat (first|refine blk_drewN ?_ _|refine blk_drew ?_|refine blk_alloc ?_ _));refine blk_put (cs:=#[.slice Ao42 t107.length co42,.slice none 0 0]) ?_ 1 _ rfl;(with_reducible repeat (first|refine blk_drewN ?_ _|refine blk_drew ?_|refine blk_alloc ?_ _));refine blk_put (cs:=#[.slice none 0 0,.slice none 0 0]) ?_ 0 _ rfl;(with_reducible repeat (first|refine blk_drewN ?_ _|refine blk_drew ?_|refine blk_alloc ?_ _));refine blk_far ?_ NB114_113.out _;(with_reducible repeat (first|refine blk_drewN ?_ _|refine blk_drew ?_|refine blk_alloc ?_ _));refine blk_far ?_ NB114_113.out _;(with_reducible repeat (first|refine blk_drewN ?_ _|refine blk_drew ?_|refine blk_alloc ?_ _));exact BK114.out) hb);have n6_:=zk (below_step (bg HB.out GE113 GE114) hb);clear HO103;clear HO106;clear HO109;clear HO112;clear BK113;clear BK114;clear HB;have HO103:=n0_;have HO106:=n1_;have HO109:=n2_;have HO112:=n3_;have BK113:=n4_;have BK114:=n5_;have HB:=n6_;clear n0_ n1_ n2_ n3_ n4_ n5_ n6_;(try clear hb);(try clear hb2);(try clear hk);(try clear hi)))
   have n0_:=zk (Kd.R_drew HO103.out)
   have n1_:=zk (Kd.R_drew HO106.out)
   have n2_:=zk (Kd.R_drew HO109.out)
   have n3_:=zk (Kd.R_drew HO112.out)
   have n4_:=zk (blk_drew BK113.out)
   have n5_:=zk (blk_drew BK114.out)
   have n6_:=zk (below_drew1 HB.out)
   clear HO103
   clear HO106
   clear HO109
   clear HO112
   clear BK113
   clear BK114
   clear HB
   have HO103:=n0_
   have HO106:=n1_
   have HO109:=n2_
   have HO112:=n3_
   have BK113:=n4_
   have BK114:=n5_
   have HB:=n6_
   clear n0_ n1_ n2_ n3_ n4_ n5_ n6_
   refine start_ (n:=12) (S:=fun w'=>w'.cell? ⟨gb113,0,none⟩ = some (.slice Ao38 t101.length co38) ∧ w'.cell? ⟨gb113,1,none⟩ = some (.slice Ao41 t104.length co41)) (ds:=[]) #[false,false,false,false,false,false,false,false,false,false,false,false] (by kernel_rfl) rfl rfl ⟨(blk_cell BK113.out 0).trans rfl,(blk_cell BK113.out 1).trans rfl⟩ (fun hHeld=>?_);refine with_tabW imprimaturlaw07_EnterProper.tab3 imprimaturlaw07_EnterProper.bits3 (fun HT_ HW_=>?_)
   generalize w45.drew = w46 at HO103 HO106 HO109 HO112 BK113 BK114 HB hHeld ⊢
   refine pure_ (i:=0) (N:=some 36) (v:=?_) (a':=?_) #[true,false,false,false,false,false,false,false,false,false,false,false] rfl rfl (any_of HT_.out (by kernel_rfl)) (fun _ _ _ h=>h) (Or.inl ⟨by rfl,?_⟩) ?_ ?_
   rotate_left
   ·intro w'
    go_simp
    with_reducible rfl
   rotate_left
   ·simp only [Act.put,List.setIfInBounds_toArray,List.set_cons_zero,List.set_cons_succ,i64_w,i32_w]
    rfl
   refine pure_ (i:=1) (N:=some 37) (v:=?_) (a':=?_) #[true,true,false,false,false,false,false,false,false,false,false,false] rfl rfl (any_of HT_.out (by kernel_rfl)) (fun _ _ _ h=>h) (Or.inl ⟨by rfl,?_⟩) ?_ ?_
   rotate_left
   ·intro w'
    go_simp
    with_reducible rfl
   rotate_left
   ·simp only [Act.put,List.setIfInBounds_toArray,List.set_cons_zero,List.set_cons_succ,i64_w,i32_w]
    rfl
   refine pure_ (i:=5) (N:=some 41) (v:=?_) (a':=?_) #[true,true,false,false,false,true,false,false,false,false,false,false] rfl rfl (any_of HT_.out (by kernel_rfl)) (fun _ _ _ h=>h) (Or.inl ⟨by rfl,?_⟩) ?_ ?_
   rotate_left
   ·intro w'
    go_simp
    with_reducible rfl
   rotate_left
   ·simp only [Act.put,List.setIfInBounds_toArray,List.set_cons_zero,List.set_cons_succ,i64_w,i32_w]
    rfl
   refine pure_ (i:=6) (N:=some 42) (v:=?_) (a':=?_) #[true,true,false,false,false,true,true,false,false,false,false,false] rfl rfl (any_of HT_.out (by kernel_rfl)) (fun _ _ _ h=>h) (Or.inl ⟨by rfl,?_⟩) ?_ ?_
   rotate_left
   ·intro w'
    go_simp
    with_reducible rfl
   rotate_left
   ·simp only [Act.put,List.setIfInBounds_toArray,List.set_cons_zero,List.set_cons_succ,i64_w,i32_w]
    rfl
   refine take_ (i:=2) (N:=some 38) (v:=?_) (a':=?_) #[true,true,true,false,false,true,true,false,false,false,false,false] rfl rfl (take_ofW HT_.out HW_.out (by kernel_rfl)) (fun _ _ _ h=>h) (Or.inl ⟨by rfl,?_⟩) hHeld ?_ ?_
   rotate_left
   ·rintro w' ⟨s0,s1⟩
    go_simp
    with_reducible rfl
   rotate_left
   ·simp only [Act.put,List.setIfInBounds_toArray,List.set_cons_zero,List.set_cons_succ,i64_w,i32_w]
    rfl
   refine pure_ (i:=3) (N:=some 39) (v:=?_) (a':=?_) #[true,true,true,true,false,true,true,false,false,false,false,false] rfl rfl (any_of HT_.out (by kernel_rfl)) (fun _ _ _ h=>h) (Or.inl ⟨by rfl,?_⟩) ?_ ?_
   rotate_left
   ·intro w'
    go_simp
    with_reducible rfl
   rotate_left
   ·simp only [Act.put,List.setIfInBounds_toArray,List.set_cons_zero,List.set_cons_succ,i64_w,i32_w]
    rfl
   refine take_ (i:=7) (N:=some 43) (v:=?_) (a':=?_) #[true,true,true,true,false,true,true,true,false,false,false,false] rfl rfl (take_ofW HT_.out HW_.out (by kernel_rfl)) (fun _ _ _ h=>h) (Or.inl ⟨by rfl,?_⟩) hHeld ?_ ?_
   rotate_left
   ·rintro w' ⟨s0,s1⟩
    go_simp
    with_reducible rfl
   rotate_left
   ·simp only [Act.put,List.setIfInBounds_toArray,List.set_cons_zero,List.set_cons_succ,i64_w,i32_w]
    rfl
   refine pure_ (i:=8) (N:=some 44) (v:=?_) (a':=?_) #[true,true,true,true,false,true,true,true,true,false,false,false] rfl rfl (any_of HT_.out (by kernel_rfl)) (fun _ _ _ h=>h) (Or.inl ⟨by rfl,?_⟩) ?_ ?_
   rotate_left
   ·intro w'
    go_simp
    with_reducible rfl
   rotate_left
   ·simp only [Act.put,List.setIfInBounds_toArray,List.set_cons_zero,List.set_cons_succ,i64_w,i32_w]
    rfl
   refine one_ (i:=4) (N:=some 40) #[true,true,true,true,true,true,true,true,true,false,false,false] rfl rfl (one_of HT_.out (by kernel_rfl)) (by decide) (fun K hK=>?_)
   refine goes_ Try.func19 (by kernel_rfl) rfl #[.int .i64 a2,.int .i64 (t101.length:Int)] (by rfl) rfl rfl oF ?_
   with_reducible refine (q11.calls a2 (t101.length:Int) t116 _ A8.out).mono ?_
   rintro e w' ⟨rfl,⟨nd,rfl⟩⟩
   refine ⟨_,rfl,?_⟩
   refine hK.out _ _ ⟨(blk_cell BK113.out 0).trans rfl,(blk_cell BK113.out 1).trans rfl⟩ (fun hHeld=>?_)
   clear hK K
   refine norm_ (a':=?_) ?_ ?_
   rotate_left
   ·show Act.put _ (some 40) _ = _
    simp only [Act.put,List.setIfInBounds_toArray,List.set_cons_zero,List.set_cons_succ,i64_w,i32_w]
    rfl
   refine one_ (i:=9) (N:=some 45) #[true,true,true,true,true,true,true,true,true,true,false,false] rfl rfl (one_of HT_.out (by kernel_rfl)) (by decide) (fun K hK=>?_)
   refine goes_ Try.func19 (by kernel_rfl) rfl #[.int .i64 a3,.int .i64 (t101.length:Int)] (by rfl) rfl rfl oF ?_
   with_reducible refine (q11.calls a3 (t101.length:Int) t117 _ A9.out).mono ?_
   rintro e w' ⟨rfl,⟨nd,rfl⟩⟩
   refine ⟨_,rfl,?_⟩
   refine hK.out _ _ ⟨(blk_cell BK113.out 0).trans rfl,(blk_cell BK113.out 1).trans rfl⟩ (fun hHeld=>?_)
   clear hK K
   refine norm_ (a':=?_) ?_ ?_
   rotate_left
   ·show Act.put _ (some 45) _ = _
    simp only [Act.put,List.setIfInBounds_toArray,List.set_cons_zero,List.set_cons_succ,i64_w,i32_w]
    rfl
   refine pure_ (i:=10) (N:=some 2) (v:=?_) (a':=?_) #[true,true,true,true,true,true,true,true,true,true,true,false] rfl rfl (any_of HT_.out (by kernel_rfl)) (fun _ _ _ h=>h) (Or.inl ⟨by rfl,?_⟩) ?_ ?_
   rotate_left
   ·intro w'
    go_simp
    with_reducible rfl
   rotate_left
   ·simp only [Act.put,List.setIfInBounds_toArray,List.set_cons_zero,List.set_cons_succ,i64_w,i32_w]
    rfl
   refine pure_ (i:=11) (N:=some 3) (v:=?_) (a':=?_) #[true,true,true,true,true,true,true,true,true,true,true,true] rfl rfl (any_of HT_.out (by kernel_rfl)) (fun _ _ _ h=>h) (Or.inl ⟨by rfl,?_⟩) ?_ ?_
   rotate_left
   ·intro w'
    go_simp
    with_reducible rfl
   rotate_left
   ·simp only [Act.put,List.setIfInBounds_toArray,List.set_cons_zero,List.set_cons_succ,i64_w,i32_w]
    rfl
   refine done_ (done_of HT_.out (by kernel_rfl)) ?_
   have hcz47_0:w46.cell? ⟨gb113,0,none⟩ = some (.slice Ao38 t101.length co38):=(blk_cell BK113.out 0).trans rfl
   have hcz47_1:w46.cell? ⟨gb113,1,none⟩ = some (.slice Ao41 t104.length co41):=(blk_cell BK113.out 1).trans rfl
   have hfz47_0:=blk_frozen BK113.out 0
   have hfz47_1:=blk_frozen BK113.out 1
   try go_wp2_with (first|((with_reducible refine gate_callee (f:=31) rfl ?_);refine goesL_ (some 56) rfl rfl Try.func31 (by kernel_rfl) rfl #[.agg #[.slice Ao38 t101.length co38,.slice Ao41 t104.length co41],.int .i64 t116,.int .i64 t117] rfl oF ?_;(with_reducible refine (q19.calls k _ _ t101 _ _ t104 t116 t117 t119 _ ?side1 ?side2 ?side3 ?side4 A28.out).mono ?_);(case side1=>exact cq ((Kd.R_reads' HO103.out).2.2));(case side2=>exact (Kd.R_reads' HO103.out).2.1);(case side3=>exact cq ((Kd.R_reads' HO106.out).2.2));(case side4=>exact (Kd.R_reads' HO106.out).2.1);rintro e w48 ⟨rfl,hb⟩;refine ⟨_,rfl,?_⟩;have n0_:=zk (Kd.R_below (rq HO103.out) hb);have n1_:=zk (Kd.R_below (rq HO106.out) hb);have n2_:=zk (Kd.R_below (rq HO109.out) hb);have n3_:=zk (Kd.R_below (rq HO112.out) hb);have n4_:=zk (blk_below (g:=gb113) (o:=.cells #[.slice Ao38 t101.length co38,.slice Ao41 t104.length co41] 24 (0,0)) (hq BK113.out) hb);have n5_:=zk (blk_below (g:=gb114) (o:=.cells #[.slice Ao42 t107.length co42,.slice Ao44 t110.length co44] 25 (0,0)) (hq BK114.out) hb);have n6_:=zk (below_step (bg HB.out GE113 GE114) hb);clear HO103;clear HO106;clear HO109;clear HO112;clear BK113;clear BK114;clear HB;have HO103:=n0_;have HO106:=n1_;have HO109:=n2_;have HO112:=n3_;have BK113:=n4_;have BK114:=n5_;have HB:=n6_;clear n0_ n1_ n2_ n3_ n4_ n5_ n6_;(try clear hb);(try clear hb2);(try clear hk);(try clear hi);have hcz49_0:w48.cell? ⟨gb113,0,none⟩ = some (.slice Ao38 t101.length co38):=(blk_cell BK113.out 0).trans rfl;have hcz49_1:w48.cell? ⟨gb113,1,none⟩ = some (.slice Ao41 t104.length co41):=(blk_cell BK113.out 1).trans rfl;have hfz49_0:=blk_frozen BK113.out 0;have hfz49_1:=blk_frozen BK113.out 1)|((with_reducible refine gate_callee (f:=23) rfl ?_);refine goesL_ (some 60) rfl rfl Try.func23 (by kernel_rfl) rfl #[.agg #[.slice Ao38 t101.length co38,.slice Ao41 t104.length co41],.int .u32 t115,.int .i64 t119] rfl oF ?_;(with_reducible refine (q25.calls k _ _ t101 _ _ t104 t115 t119 t120 _ ?side1 ?side2 ?side3 ?side4 A29.out).mono ?_);(case side1=>exact cq ((Kd.R_reads' HO103.out).2.2));(case side2=>exact (Kd.R_reads' HO103.out).2.1);(case side3=>exact cq ((Kd.R_reads' HO106.out).2.2));(case side4=>exact (Kd.R_reads' HO106.out).2.1);rintro e w50 ⟨v121,rfl,ho0,hb⟩;refine ⟨_,rfl,?_⟩;have n0_:=zk (Kd.R_elder' (rq HO103.out) (Kd.R_base ho0) hb);have n1_:=zk (Kd.R_elder' (rq HO106.out) (Kd.R_base ho0) hb);have n2_:=zk (Kd.R_elder' (rq HO109.out) (Kd.R_base ho0) hb);have n3_:=zk (Kd.R_elder' (rq HO112.out) (Kd.R_base ho0) hb);have n4_:=zk (Kd.R_lower (Kd.R_new' (Kd.R_new' (Kd.R_new' (Kd.R_new' ho0 (Kd.R_lt (rq HO103.out))) (Kd.R_lt (rq HO106.out))) (Kd.R_lt (rq HO109.out))) (Kd.R_lt (rq HO112.out))) (below_size (bg HB.out GE113 GE114)));have n5_:=zk (blk_below (g:=gb113) (o:=.cells #[.slice Ao38 t101.length co38,.slice Ao41 t104.length co41] 24 (0,0)) (hq BK113.out) hb);have n6_:=zk (blk_below (g:=gb114) (o:=.cells #[.slice Ao42 t107.length co42,.slice Ao44 t110.length co44] 25 (0,0)) (hq BK114.out) hb);have n7_:=zk (below_step (bg HB.out GE113 GE114) hb);clear HO103;clear HO106;clear HO109;clear HO112;clear BK113;clear BK114;clear HB;have HO103:=n0_;have HO106:=n1_;have HO109:=n2_;have HO112:=n3_;have HO122:=n4_;have BK113:=n5_;have BK114:=n6_;have HB:=n7_;clear n0_ n1_ n2_ n3_ n4_ n5_ n6_ n7_;(try clear hb);(try clear hb2);(try clear hk);(try clear hi);(try clear ho0)))
   have n0_:=zk (Kd.R_drew HO103.out)
   have n1_:=zk (Kd.R_drew HO106.out)
   have n2_:=zk (Kd.R_drew HO109.out)
   have n3_:=zk (Kd.R_drew HO112.out)
   have n4_:=zk (Kd.R_drew HO122.out)
   have n5_:=zk (blk_drew BK113.out)
   have n6_:=zk (blk_drew BK114.out)
   have n7_:=zk (below_drew1 HB.out)
   clear HO103
   clear HO106
   clear HO109
   clear HO112
   clear HO122
   clear BK113
   clear BK114
   clear HB
   have HO103:=n0_
   have HO106:=n1_
   have HO109:=n2_
   have HO112:=n3_
   have HO122:=n4_
   have BK113:=n5_
   have BK114:=n6_
   have HB:=n7_
   clear n0_ n1_ n2_ n3_ n4_ n5_ n6_ n7_
   refine start_ (n:=8) (S:=fun w'=>w'.cell? ⟨gb113,0,none⟩ = some (.slice Ao38 t101.length co38) ∧ w'.cell? ⟨gb113,1,none⟩ = some (.slice Ao41 t104.length co41) ∧ w'.cell? ⟨gb114,0,none⟩ = some (.slice Ao42 t107.length co42) ∧ w'.cell? ⟨gb114,1,none⟩ = some (.slice Ao44 t110.length co44)) (ds:=[]) #[false,false,false,false,false,false,false,false] (by kernel_rfl) rfl rfl ⟨(blk_cell BK113.out 0).trans rfl,(blk_cell BK113.out 1).trans rfl,(blk_cell BK114.out 0).trans rfl,(blk_cell BK114.out 1).trans rfl⟩ (fun hHeld=>?_);refine with_tabW imprimaturlaw07_EnterProper.tab8 imprimaturlaw07_EnterProper.bits8 (fun HT_ HW_=>?_)
   generalize w50.drew = w51 at HO103 HO106 HO109 HO112 HO122 BK113 BK114 HB hHeld ⊢
   refine pure_ (i:=1) (N:=some 62) (v:=?_) (a':=?_) #[false,true,false,false,false,false,false,false] rfl rfl (any_of HT_.out (by kernel_rfl)) (fun _ _ _ h=>h) (Or.inl ⟨by rfl,?_⟩) ?_ ?_
   rotate_left
   ·intro w'
    go_simp
    with_reducible rfl
   rotate_left
   ·simp only [Act.put,List.setIfInBounds_toArray,List.set_cons_zero,List.set_cons_succ,i64_w,i32_w]
    rfl
   refine pure_ (i:=2) (N:=some 63) (v:=?_) (a':=?_) #[false,true,true,false,false,false,false,false] rfl rfl (any_of HT_.out (by kernel_rfl)) (fun _ _ _ h=>h) (Or.inl ⟨by rfl,?_⟩) ?_ ?_
   rotate_left
   ·intro w'
    go_simp
    with_reducible rfl
   rotate_left
   ·simp only [Act.put,List.setIfInBounds_toArray,List.set_cons_zero,List.set_cons_succ,i64_w,i32_w]
    rfl
   refine pure_ (i:=4) (N:=some 65) (v:=?_) (a':=?_) #[false,true,true,false,true,false,false,false] rfl rfl (any_of HT_.out (by kernel_rfl)) (fun _ _ _ h=>h) (Or.inl ⟨by rfl,?_⟩) ?_ ?_
   rotate_left
   ·intro w'
    go_simp
    with_reducible rfl
   rotate_left
   ·simp only [Act.put,List.setIfInBounds_toArray,List.set_cons_zero,List.set_cons_succ,i64_w,i32_w]
    rfl
   refine take_ (i:=0) (N:=some 61) (v:=?_) (a':=?_) #[true,true,true,false,true,false,false,false] rfl rfl (take_ofW HT_.out HW_.out (by kernel_rfl)) (fun _ _ _ h=>h) (Or.inl ⟨by rfl,?_⟩) hHeld ?_ ?_
   rotate_left
   ·rintro w' ⟨s0,s1,s2,s3⟩
    go_simp
    with_reducible rfl
   rotate_left
   ·simp only [Act.put,List.setIfInBounds_toArray,List.set_cons_zero,List.set_cons_succ,i64_w,i32_w]
    rfl
   refine take_ (i:=3) (N:=some 64) (v:=?_) (a':=?_) #[true,true,true,true,true,false,false,false] rfl rfl (take_ofW HT_.out HW_.out (by kernel_rfl)) (fun _ _ _ h=>h) (Or.inl ⟨by rfl,?_⟩) hHeld ?_ ?_
   rotate_left
   ·rintro w' ⟨s0,s1,s2,s3⟩
    go_simp
    with_reducible rfl
   rotate_left
   ·simp only [Act.put,List.setIfInBounds_toArray,List.set_cons_zero,List.set_cons_succ,i64_w,i32_w]
    rfl
   refine one_ (i:=5) (N:=some 66) #[true,true,true,true,true,true,false,false] rfl rfl (one_of HT_.out (by kernel_rfl)) (by decide) (fun K hK=>?_)
   refine goes_ Try.func22 (by kernel_rfl) rfl #[.agg #[.slice Ao42 t107.length co42,.slice Ao44 t110.length co44],.slice A4 l4.length c4] (by rfl) rfl rfl oF ?_
   with_reducible refine (q12.calls k _ _ t107 _ _ t110 _ _ l4 t123 _ ?side1 ?side2 ?side3 ?side4 ?side5 ?side6 A30.out).mono ?_
   (case side1=>exact cq ((Kd.R_reads' HO109.out).2.2))
   (case side2=>exact (Kd.R_reads' HO109.out).2.1)
   (case side3=>exact cq ((Kd.R_reads' HO112.out).2.2))
   (case side4=>exact (Kd.R_reads' HO112.out).2.1)
   (case side5=>exact cq (Kd.C_below HR4.out HB.out))
   (case side6=>exact HC4.out)
   rintro e w52 ⟨v124,rfl,ho0,hb⟩
   refine ⟨_,rfl,?_⟩
   have n0_:=zk (Kd.R_below (rq HO103.out) hb)
   have n1_:=zk (Kd.R_below (rq HO106.out) hb)
   have n2_:=zk (Kd.R_below (rq HO109.out) hb)
   have n3_:=zk (Kd.R_below (rq HO112.out) hb)
   have n4_:=zk (Kd.R_below (rq HO122.out) hb)
   have n5_:=zk (Kd.R_lower ho0 (below_size (bg HB.out GE113 GE114)))
   have n6_:=zk (blk_below (g:=gb113) (o:=.cells #[.slice Ao38 t101.length co38,.slice Ao41 t104.length co41] 24 (0,0)) (hq BK113.out) hb)
   have n7_:=zk (blk_below (g:=gb114) (o:=.cells #[.slice Ao42 t107.length co42,.slice Ao44 t110.length co44] 25 (0,0)) (hq BK114.out) hb)
   have n8_:=zk (below_step (bg HB.out GE113 GE114) hb)
   clear HO103
   clear HO106
   clear HO109
   clear HO112
   clear HO122
   clear BK113
   clear BK114
   clear HB
   have HO103:=n0_
   have HO106:=n1_
   have HO109:=n2_
   have HO112:=n3_
   have HO122:=n4_
   have HO125:=n5_
   have BK113:=n6_
   have BK114:=n7_
   have HB:=n8_
   clear n0_ n1_ n2_ n3_ n4_ n5_ n6_ n7_ n8_
   (try clear hb)
   (try clear hb2)
   (try clear hk)
   (try clear hi)
   (try clear ho0)
   obtain ⟨Ao53,co53,eo53⟩:=Kd.R_slice HO125.out
   (first|subst eo53|(injection eo53 with f1_ f2_ f3_;have f4_:=f1_.symm;have f5_:=f3_.symm;clear f1_ f2_ f3_;subst f4_;subst f5_))
   refine hK.out _ _ ⟨(blk_cell BK113.out 0).trans rfl,(blk_cell BK113.out 1).trans rfl,(blk_cell BK114.out 0).trans rfl,(blk_cell BK114.out 1).trans rfl⟩ (fun hHeld=>?_)
   clear hK K
   refine norm_ (a':=?_) ?_ ?_
   rotate_left
   ·show Act.put _ (some 66) _ = _
    simp only [Act.put,List.setIfInBounds_toArray,List.set_cons_zero,List.set_cons_succ,i64_w,i32_w]
    rfl
   refine one_ (i:=6) (N:=some 67) #[true,true,true,true,true,true,true,false] rfl rfl (one_of HT_.out (by kernel_rfl)) (by decide) (fun K hK=>?_)
   refine goes_ Try.func33 (by kernel_rfl) rfl #[.agg #[.slice Ao38 t101.length co38,.slice Ao41 t104.length co41],.int .i64 t119,.int .i64 t117,.slice Ao53 t123.length co53] (by rfl) rfl rfl oF ?_
   with_reducible refine (q23.calls _ _ t101 _ _ t104 t119 t117 _ _ t123 t126 _ ?side1 ?side2 ?side3 ?side4 ?side5 ?side6 A31.out).mono ?_
   (case side1=>exact cq ((Kd.R_reads' HO103.out).2.2))
   (case side2=>exact (Kd.R_reads' HO103.out).2.1)
   (case side3=>exact cq ((Kd.R_reads' HO106.out).2.2))
   (case side4=>exact (Kd.R_reads' HO106.out).2.1)
   (case side5=>exact cq ((Kd.R_reads' HO125.out).2.2))
   (case side6=>exact (Kd.R_reads' HO125.out).2.1)
   rintro e w54 ⟨v127,rfl,ho0,hb⟩
   refine ⟨_,rfl,?_⟩
   have n0_:=zk (Kd.R_elder' (rq HO103.out) (Kd.R_base ho0) hb)
   have n1_:=zk (Kd.R_elder' (rq HO106.out) (Kd.R_base ho0) hb)
   have n2_:=zk (Kd.R_elder' (rq HO109.out) (Kd.R_base ho0) hb)
   have n3_:=zk (Kd.R_elder' (rq HO112.out) (Kd.R_base ho0) hb)
   have n4_:=zk (Kd.R_elder' (rq HO122.out) (Kd.R_base ho0) hb)
   have n5_:=zk (Kd.R_below (rq HO125.out) hb)
   have n6_:=zk (Kd.R_lower (Kd.R_new' (Kd.R_new' (Kd.R_new' (Kd.R_new' (Kd.R_new' ho0 (Kd.R_lt (rq HO103.out))) (Kd.R_lt (rq HO106.out))) (Kd.R_lt (rq HO109.out))) (Kd.R_lt (rq HO112.out))) (Kd.R_lt (rq HO122.out))) (below_size (bg HB.out GE113 GE114)))
   have n7_:=zk (blk_below (g:=gb113) (o:=.cells #[.slice Ao38 t101.length co38,.slice Ao41 t104.length co41] 24 (0,0)) (hq BK113.out) hb)
   have n8_:=zk (blk_below (g:=gb114) (o:=.cells #[.slice Ao42 t107.length co42,.slice Ao44 t110.length co44] 25 (0,0)) (hq BK114.out) hb)
   have n9_:=zk (below_step (bg HB.out GE113 GE114) hb)
   clear HO103
   clear HO106
   clear HO109
   clear HO112
   clear HO122
   clear HO125
   clear BK113
   clear BK114
   clear HB
   have HO103:=n0_
   have HO106:=n1_
   have HO109:=n2_
   have HO112:=n3_
   have HO122:=n4_
   have HO125:=n5_
   have HO128:=n6_
   have BK113:=n7_
   have BK114:=n8_
   have HB:=n9_
   clear n0_ n1_ n2_ n3_ n4_ n5_ n6_ n7_ n8_ n9_
   (try clear hb)
   (try clear hb2)
   (try clear hk)
   (try clear hi)
   (try clear ho0)
   refine hK.out _ _ ⟨(blk_cell BK113.out 0).trans rfl,(blk_cell BK113.out 1).trans rfl,(blk_cell BK114.out 0).trans rfl,(blk_cell BK114.out 1).trans rfl⟩ (fun hHeld=>?_)
   clear hK K
   refine norm_ (a':=?_) ?_ ?_
   rotate_left
   ·show Act.put _ (some 67) _ = _
    simp only [Act.put,List.setIfInBounds_toArray,List.set_cons_zero,List.set_cons_succ,i64_w,i32_w]
    rfl
   refine pure_ (i:=7) (N:=some 16) (v:=?_) (a':=?_) #[true,true,true,true,true,true,true,true] rfl rfl (any_of HT_.out (by kernel_rfl)) (fun _ _ _ h=>h) (Or.inl ⟨by rfl,?_⟩) ?_ ?_
   rotate_left
   ·intro w'
    go_simp
    with_reducible rfl
   rotate_left
   ·simp only [Act.put,List.setIfInBounds_toArray,List.set_cons_zero,List.set_cons_succ,i64_w,i32_w]
    rfl
   refine done_ (done_of HT_.out (by kernel_rfl)) ?_
   obtain ⟨Ao55,co55,eo55⟩:=Kd.R_slice HO122.out
   subst eo55
   go_upto_region 10 with (first|((with_reducible refine gate_callee (f:=26) rfl ?_);refine goesL_ (some 69) rfl rfl Try.func26 (by kernel_rfl) rfl #[.slice Ao55 t120.length co55] rfl oF ?_;(with_reducible refine (q13.calls k _ _ t120 t129 _ ?side1 ?side2 A32.out).mono ?_);(case side1=>exact cq ((Kd.R_reads' HO122.out).2.2));(case side2=>exact (Kd.R_reads' HO122.out).2.1);rintro e w' ⟨rfl,⟨nd,rfl⟩⟩;refine ⟨_,rfl,?_⟩;obtain ⟨Ao56,co56,eo56⟩:=Kd.R_slice HO128.out;subst eo56)|((with_reducible refine gate_callee (f:=26) rfl ?_);refine goesL_ (some 71) rfl rfl Try.func26 (by kernel_rfl) rfl #[.slice Ao56 t126.length co56] rfl oF ?_;(with_reducible refine (q13.calls k _ _ t126 t130 _ ?side1 ?side2 A33.out).mono ?_);(case side1=>exact cq ((Kd.R_reads' HO128.out).2.2));(case side2=>exact (Kd.R_reads' HO128.out).2.1);rintro e w' ⟨rfl,⟨nd,rfl⟩⟩;refine ⟨_,rfl,?_⟩))
   (try simp only [Act.put,List.setIfInBounds_toArray,List.set_cons_zero,List.set_cons_succ])
   go_cut [105] (fun v105 wc=>∃ (kq:Nat) (x105_33:Bool),v105 = .bool x105_33 ∧ Aside0 (q2.j0 kq t117 t115 t119 t120 t126 t129 t130 x105_33 t101 t104 = some r) ∧ Aside0 (kq ≤ k) ∧ Aside0 (Kd.R (Kd.int .i64) 3 wc w.heap.size (fun k_=>some k_ ≠ ((.slice Ao56 t126.length co56):Value).ownBlock ∧ some k_ ≠ ((.slice Ao38 t101.length co38):Value).ownBlock ∧ some k_ ≠ ((.slice Ao41 t104.length co41):Value).ownBlock ∧ some k_ ≠ ((.slice Ao42 t107.length co42):Value).ownBlock ∧ some k_ ≠ ((.slice Ao44 t110.length co44):Value).ownBlock) (.slice Ao55 t120.length co55) t120) ∧ Aside0 (Kd.R (Kd.int .i64) 3 wc w.heap.size (fun k_=>some k_ ≠ ((.slice Ao55 t120.length co55):Value).ownBlock ∧ some k_ ≠ ((.slice Ao38 t101.length co38):Value).ownBlock ∧ some k_ ≠ ((.slice Ao41 t104.length co41):Value).ownBlock ∧ some k_ ≠ ((.slice Ao42 t107.length co42):Value).ownBlock ∧ some k_ ≠ ((.slice Ao44 t110.length co44):Value).ownBlock) (.slice Ao56 t126.length co56) t126) ∧ Aside0 (Kd.R (Kd.int .i64) 3 wc w.heap.size (fun k_=>some k_ ≠ ((.slice Ao55 t120.length co55):Value).ownBlock ∧ some k_ ≠ ((.slice Ao56 t126.length co56):Value).ownBlock ∧ some k_ ≠ ((.slice Ao41 t104.length co41):Value).ownBlock ∧ some k_ ≠ ((.slice Ao42 t107.length co42):Value).ownBlock ∧ some k_ ≠ ((.slice Ao44 t110.length co44):Value).ownBlock) (.slice Ao38 t101.length co38) t101) ∧ Aside0 (Kd.R (Kd.int .i64) 3 wc w.heap.size (fun k_=>some k_ ≠ ((.slice Ao55 t120.length co55):Value).ownBlock ∧ some k_ ≠ ((.slice Ao56 t126.length co56):Value).ownBlock ∧ some k_ ≠ ((.slice Ao38 t101.length co38):Value).ownBlock ∧ some k_ ≠ ((.slice Ao42 t107.length co42):Value).ownBlock ∧ some k_ ≠ ((.slice Ao44 t110.length co44):Value).ownBlock) (.slice Ao41 t104.length co41) t104) ∧ Aside0 (Kd.R (Kd.int .i64) 3 wc w.heap.size (fun k_=>some k_ ≠ ((.slice Ao55 t120.length co55):Value).ownBlock ∧ some k_ ≠ ((.slice Ao56 t126.length co56):Value).ownBlock ∧ some k_ ≠ ((.slice Ao38 t101.length co38):Value).ownBlock ∧ some k_ ≠ ((.slice Ao41 t104.length co41):Value).ownBlock ∧ some k_ ≠ ((.slice Ao44 t110.length co44):Value).ownBlock) (.slice Ao42 t107.length co42) t107) ∧ Aside0 (Kd.R (Kd.int .i64) 3 wc w.heap.size (fun k_=>some k_ ≠ ((.slice Ao55 t120.length co55):Value).ownBlock ∧ some k_ ≠ ((.slice Ao56 t126.length co56):Value).ownBlock ∧ some k_ ≠ ((.slice Ao38 t101.length co38):Value).ownBlock ∧ some k_ ≠ ((.slice Ao41 t104.length co41):Value).ownBlock ∧ some k_ ≠ ((.slice Ao42 t107.length co42):Value).ownBlock) (.slice Ao44 t110.length co44) t110) ∧ Aside0 (wc.heap[gb113]? = some (.cells #[(.slice Ao38 t101.length co38),(.slice Ao41 t104.length co41)] 24 (0,0))) ∧ Aside0 (wc.heap[gb114]? = some (.cells #[(.slice Ao42 t107.length co42),(.slice Ao44 t110.length co44)] 25 (0,0))) ∧ Aside0 (Below w.heap.size w wc))
   case first =>
    have H:=HC34.out
    clear HC34
    by_cases c57:(Go.bits .andNot .u32 t129 t115) = 0
    ·rw [if_pos c57] at H
     have c57b0:((Go.bits .andNot .u32 t129 t115) == 0) = true:=beq_iff_eq.mpr c57
     have c57b1:((Go.bits .andNot .u32 t129 t115) != 0) = false:=bne_eq_false_iff_eq.mpr c57
     clear c57
     (first|rw [c57b0]|(simp only [i64_w,i32_w];rw [c57b0])|skip)
     have c58b0:=eq_true (oA:0 ≤ (ji10))
     obtain ⟨ji59,hji59⟩:∃ j_:Int,(shr .u32 t129 (ji10)) = j_:=⟨_,rfl⟩
     replace H:(if (Go.bits .and .u32 (ji59) 1) = 0 then (q2.j0 k t117 t115 t119 t120 t126 t129 t130 true t101 t104) else ((q10.f k t129).bind fun t131=>(if (t120.length:Int) = t131 then ((q10.f k t130).bind fun t132=>(if (t126.length:Int) = t132 then (q2.j0 k t117 t115 t119 t120 t126 t129 t130 ((Go.bits .and .u32 (Go.bits .andNot .u32 t115 t129) t130) != 0) t101 t104) else (q2.j0 k t117 t115 t119 t120 t126 t129 t130 true t101 t104))) else (q2.j0 k t117 t115 t119 t120 t126 t129 t130 true t101 t104)))) = some r:=by first|(rw [hji59] at H;exact H)|(simp only [hji59] at H ⊢;exact H)
     have hji59_:(t129 / 2 ^ min (ji10).toNat 32) = ji59:=hji59
     have hji59z:(ji10) ≤ 32 → (t129 / 2 ^ (ji10).toNat) = ji59:=shr_small hji59
     by_cases c60:(Go.bits .and .u32 (ji59) 1) = 0
     ·rw [if_pos c60] at H
      have c60b0:((Go.bits .and .u32 (ji59) 1) == 0) = true:=beq_iff_eq.mpr c60
      have c60b1:((Go.bits .and .u32 (ji59) 1) != 0) = false:=bne_eq_false_iff_eq.mpr c60
      clear c60
      exact absurd H (by rw [hrt_.out];cases k <;> simp [q2.j0])
     ·rw [if_neg c60] at H
      have c60b0:((Go.bits .and .u32 (ji59) 1) == 0) = false:=beq_eq_false_iff_ne.mpr c60
      have c60b1:((Go.bits .and .u32 (ji59) 1) != 0) = true:=bne_iff_ne.mpr c60
      replace H:=Option.bind_eq_some_iff.mp H
      obtain ⟨t131,A610,H⟩:=H
      replace H:(if (t120.length:Int) = t131 then ((q10.f k t130).bind fun t132=>(if (t126.length:Int) = t132 then (q2.j0 k t117 t115 t119 t120 t126 t129 t130 ((Go.bits .and .u32 (Go.bits .andNot .u32 t115 t129) t130) != 0) t101 t104) else (q2.j0 k t117 t115 t119 t120 t126 t129 t130 true t101 t104))) else (q2.j0 k t117 t115 t119 t120 t126 t129 t130 true t101 t104)) = some r:=H
      have A61:=Aside0.mk A610
      clear A610
      by_cases c62:(t120.length:Int) = t131
      ·rw [if_pos c62] at H
       have c62b0:((t120.length:Int) == t131) = true:=beq_iff_eq.mpr c62
       have c62b1:((t120.length:Int) != t131) = false:=bne_eq_false_iff_eq.mpr c62
       clear c62
       replace H:=Option.bind_eq_some_iff.mp H
       obtain ⟨t132,A630,H⟩:=H
       replace H:(if (t126.length:Int) = t132 then (q2.j0 k t117 t115 t119 t120 t126 t129 t130 ((Go.bits .and .u32 (Go.bits .andNot .u32 t115 t129) t130) != 0) t101 t104) else (q2.j0 k t117 t115 t119 t120 t126 t129 t130 true t101 t104)) = some r:=H
       have A63:=Aside0.mk A630
       clear A630
       by_cases c64:(t126.length:Int) = t132
       ·rw [if_pos c64] at H
        have c64b0:((t126.length:Int) == t132) = true:=beq_iff_eq.mpr c64
        have c64b1:((t126.length:Int) != t132) = false:=bne_eq_false_iff_eq.mpr c64
        clear c64
        have H':=Aside0.mk H
        clear H
        go_wp2_with (first|(go_at_call 41;(with_reducible refine (q10.calls k t129 t131 _ A61.out).mono ?_);rintro e w' ⟨rfl,⟨nd,rfl⟩⟩)|(go_at_call 41;(with_reducible refine (q10.calls k t130 t132 _ A63.out).mono ?_);rintro e w' ⟨rfl,⟨nd,rfl⟩⟩))
        first|go_meet|(simp only [← hji10,← hji12,← hji59];go_meet)
        case rel=>exact ⟨_,(((Go.bits .and .u32 (Go.bits .andNot .u32 t115 t129) t130) != 0)),oE,(by first|exact H'|exact ⟨by simp only [hji10,hji12,hji59];exact H'.out⟩),⟨by first|omega|exact Nat.le_refl _⟩,⟨rq (Kd.R_mono HO122.out (fun _ hk=>⟨hk.2,⟨hk.1.1.1.1.2,⟨hk.1.1.1.2,⟨hk.1.1.2,hk.1.2⟩⟩⟩⟩))⟩,⟨rq (Kd.R_mono HO128.out (fun _ hk=>⟨hk.2,⟨hk.1.1.1.1.2,⟨hk.1.1.1.2,⟨hk.1.1.2,hk.1.2⟩⟩⟩⟩))⟩,⟨rq (Kd.R_mono HO103.out (fun _ hk=>⟨hk.1.2,⟨hk.2,⟨hk.1.1.1,⟨hk.1.1.2.1,hk.1.1.2.2⟩⟩⟩⟩))⟩,⟨rq (Kd.R_mono HO106.out (fun _ hk=>⟨hk.1.2,⟨hk.2,⟨hk.1.1.1,⟨hk.1.1.2.1,hk.1.1.2.2⟩⟩⟩⟩))⟩,⟨rq (Kd.R_mono HO109.out (fun _ hk=>⟨hk.1.2,⟨hk.2,⟨hk.1.1.1,⟨hk.1.1.2.1,hk.1.1.2.2⟩⟩⟩⟩))⟩,⟨rq (Kd.R_mono HO112.out (fun _ hk=>⟨hk.1.2,⟨hk.2,⟨hk.1.1.1,⟨hk.1.1.2.1,hk.1.1.2.2⟩⟩⟩⟩))⟩,⟨hq BK113.out⟩,⟨hq BK114.out⟩,⟨bg HB.out GE113 GE114⟩⟩
       ·rw [if_neg c64] at H
        have c64b0:((t126.length:Int) == t132) = false:=beq_eq_false_iff_ne.mpr c64
        have c64b1:((t126.length:Int) != t132) = true:=bne_iff_ne.mpr c64
        exact absurd H (by rw [hrt_.out];cases k <;> simp [q2.j0])
      ·rw [if_neg c62] at H
       have c62b0:((t120.length:Int) == t131) = false:=beq_eq_false_iff_ne.mpr c62
       have c62b1:((t120.length:Int) != t131) = true:=bne_iff_ne.mpr c62
       exact absurd H (by rw [hrt_.out];cases k <;> simp [q2.j0])
    ·rw [if_neg c57] at H
     have c57b0:((Go.bits .andNot .u32 t129 t115) == 0) = false:=beq_eq_false_iff_ne.mpr c57
     have c57b1:((Go.bits .andNot .u32 t129 t115) != 0) = true:=bne_iff_ne.mpr c57
     (first|rw [c57b0]|(simp only [i64_w,i32_w];rw [c57b0])|skip)
     exact absurd H (by rw [hrt_.out];cases k <;> simp [q2.j0])
   case rest =>
    clear HC34
    try clear c1
    try clear c2
    try clear p2
    try clear c3
    try clear c4
    try clear c5
    try clear c6
    try clear c11
    try clear c11b0
    try clear c11b1
    try clear c12
    try clear c13
    try clear c13b0
    try clear c13b1
    try clear c18
    try clear c19
    try clear c22
    try clear c23
    try clear c26
    try clear c28
    try clear c31
    try clear c33
    try clear c39
    try clear c57
    try clear c57b0
    try clear c57b1
    try clear c58
    try clear c58b0
    try clear c60
    try clear c60b0
    try clear c60b1
    try clear c62
    try clear c62b0
    try clear c62b1
    try clear c64
    try clear c64b0
    try clear c64b1
    try clear hcz20_0
    try clear hcz20_1
    try clear hcz23_0
    try clear hcz23_1
    try clear hcz40_0
    try clear hcz40_1
    try clear hcz43_0
    try clear hcz43_1
    try clear hcz47_0
    try clear hcz47_1
    try clear hcz49_0
    try clear hcz49_1
    try clear hfz20_0
    try clear hfz20_1
    try clear hfz23_0
    try clear hfz23_1
    try clear hfz40_0
    try clear hfz40_1
    try clear hfz43_0
    try clear hfz43_1
    try clear hfz47_0
    try clear hfz47_1
    try clear hfz49_0
    try clear hfz49_1
    obtain ⟨kq,x105_33,rfl,HA,HJ33,HO_15,HO_16,HO_114000,HO_114001,HO_115000,HO_115001,BK113,BK114,HB⟩:=hcut
    cases kq with
    | zero=>exact absurd HA.out (by simp [q2.j0])
    | succ kj33 =>
     have H:=HA.out
     clear HA
     simp only [q2.j0] at H
     by_cases c65:x105_33 = true
     ·subst c65
      have H1:(some false) = some r:=by rw [if_pos rfl] at H;exact H
      clear H
      have H:=H1
      clear H1
      exact absurd (H.trans (congrArg some hrt_.out)) (by simp)
     ·replace c65:=Bool.eq_false_iff.mpr c65
      subst c65
      have H1:(q2.l0 kj33 t117 t115 t119 t120 t126 t129 t130 t126 (t126.length:Int) 0 t101 t104) = some r:=by rw [if_neg (show ¬ (false = true) by decide)] at H;exact H
      clear H
      have H:=H1
      clear H1
      have H':=Aside0.mk H
      clear H
      go_wp2
      go_loopg [108] kj33 (fun kq v108 w'=>∃ (x108_2:Int),v108 = .int .i64 x108_2 ∧ Aside0 (q2.l0 kq t117 t115 t119 t120 t126 t129 t130 t126 (t126.length:Int) x108_2 t101 t104 = some r) ∧ Aside0 (kq ≤ kj33) ∧ Aside0 (Kd.R (Kd.int .i64) 3 w' w.heap.size (fun k_=>some k_ ≠ ((.slice Ao56 t126.length co56):Value).ownBlock ∧ some k_ ≠ ((.slice Ao56 t126.length co56):Value).ownBlock ∧ some k_ ≠ ((.slice Ao38 t101.length co38):Value).ownBlock ∧ some k_ ≠ ((.slice Ao41 t104.length co41):Value).ownBlock ∧ some k_ ≠ ((.slice Ao42 t107.length co42):Value).ownBlock ∧ some k_ ≠ ((.slice Ao44 t110.length co44):Value).ownBlock) (.slice Ao55 t120.length co55) t120) ∧ Aside0 (Kd.R (Kd.int .i64) 3 w' w.heap.size (fun k_=>some k_ ≠ ((.slice Ao55 t120.length co55):Value).ownBlock ∧ some k_ ≠ ((.slice Ao38 t101.length co38):Value).ownBlock ∧ some k_ ≠ ((.slice Ao41 t104.length co41):Value).ownBlock ∧ some k_ ≠ ((.slice Ao42 t107.length co42):Value).ownBlock ∧ some k_ ≠ ((.slice Ao44 t110.length co44):Value).ownBlock) (.slice Ao56 t126.length co56) t126) ∧ Aside0 (Kd.R (Kd.int .i64) 3 w' w.heap.size (fun k_=>some k_ ≠ ((.slice Ao55 t120.length co55):Value).ownBlock ∧ some k_ ≠ ((.slice Ao38 t101.length co38):Value).ownBlock ∧ some k_ ≠ ((.slice Ao41 t104.length co41):Value).ownBlock ∧ some k_ ≠ ((.slice Ao42 t107.length co42):Value).ownBlock ∧ some k_ ≠ ((.slice Ao44 t110.length co44):Value).ownBlock) (.slice Ao56 t126.length co56) t126) ∧ Aside0 (Kd.R (Kd.int .i64) 3 w' w.heap.size (fun k_=>some k_ ≠ ((.slice Ao55 t120.length co55):Value).ownBlock ∧ some k_ ≠ ((.slice Ao56 t126.length co56):Value).ownBlock ∧ some k_ ≠ ((.slice Ao56 t126.length co56):Value).ownBlock ∧ some k_ ≠ ((.slice Ao41 t104.length co41):Value).ownBlock ∧ some k_ ≠ ((.slice Ao42 t107.length co42):Value).ownBlock ∧ some k_ ≠ ((.slice Ao44 t110.length co44):Value).ownBlock) (.slice Ao38 t101.length co38) t101) ∧ Aside0 (Kd.R (Kd.int .i64) 3 w' w.heap.size (fun k_=>some k_ ≠ ((.slice Ao55 t120.length co55):Value).ownBlock ∧ some k_ ≠ ((.slice Ao56 t126.length co56):Value).ownBlock ∧ some k_ ≠ ((.slice Ao56 t126.length co56):Value).ownBlock ∧ some k_ ≠ ((.slice Ao38 t101.length co38):Value).ownBlock ∧ some k_ ≠ ((.slice Ao42 t107.length co42):Value).ownBlock ∧ some k_ ≠ ((.slice Ao44 t110.length co44):Value).ownBlock) (.slice Ao41 t104.length co41) t104) ∧ Aside0 (Kd.R (Kd.int .i64) 3 w' w.heap.size (fun k_=>some k_ ≠ ((.slice Ao55 t120.length co55):Value).ownBlock ∧ some k_ ≠ ((.slice Ao56 t126.length co56):Value).ownBlock ∧ some k_ ≠ ((.slice Ao56 t126.length co56):Value).ownBlock ∧ some k_ ≠ ((.slice Ao38 t101.length co38):Value).ownBlock ∧ some k_ ≠ ((.slice Ao41 t104.length co41):Value).ownBlock ∧ some k_ ≠ ((.slice Ao44 t110.length co44):Value).ownBlock) (.slice Ao42 t107.length co42) t107) ∧ Aside0 (Kd.R (Kd.int .i64) 3 w' w.heap.size (fun k_=>some k_ ≠ ((.slice Ao55 t120.length co55):Value).ownBlock ∧ some k_ ≠ ((.slice Ao56 t126.length co56):Value).ownBlock ∧ some k_ ≠ ((.slice Ao56 t126.length co56):Value).ownBlock ∧ some k_ ≠ ((.slice Ao38 t101.length co38):Value).ownBlock ∧ some k_ ≠ ((.slice Ao41 t104.length co41):Value).ownBlock ∧ some k_ ≠ ((.slice Ao42 t107.length co42):Value).ownBlock) (.slice Ao44 t110.length co44) t110) ∧ Aside0 (w'.heap[gb113]? = some (.cells #[(.slice Ao38 t101.length co38),(.slice Ao41 t104.length co41)] 24 (0,0))) ∧ Aside0 (w'.heap[gb114]? = some (.cells #[(.slice Ao42 t107.length co42),(.slice Ao44 t110.length co44)] 25 (0,0))) ∧ Aside0 (Below w.heap.size w w'))
      case atStart=>exact ⟨(0),oE,(by first|exact H'|exact ⟨by simp only [hji10,hji12];exact H'.out⟩),⟨Nat.le_refl _⟩,⟨rq (Kd.R_mono HO_15.out (fun _ hk=>⟨hk.1,⟨hk.1,⟨hk.2.1,⟨hk.2.2.1,⟨hk.2.2.2.1,hk.2.2.2.2⟩⟩⟩⟩⟩))⟩,⟨rq HO_16.out⟩,⟨rq HO_16.out⟩,⟨rq (Kd.R_mono HO_114000.out (fun _ hk=>⟨hk.1,⟨hk.2.1,⟨hk.2.1,⟨hk.2.2.1,⟨hk.2.2.2.1,hk.2.2.2.2⟩⟩⟩⟩⟩))⟩,⟨rq (Kd.R_mono HO_114001.out (fun _ hk=>⟨hk.1,⟨hk.2.1,⟨hk.2.1,⟨hk.2.2.1,⟨hk.2.2.2.1,hk.2.2.2.2⟩⟩⟩⟩⟩))⟩,⟨rq (Kd.R_mono HO_115000.out (fun _ hk=>⟨hk.1,⟨hk.2.1,⟨hk.2.1,⟨hk.2.2.1,⟨hk.2.2.2.1,hk.2.2.2.2⟩⟩⟩⟩⟩))⟩,⟨rq (Kd.R_mono HO_115001.out (fun _ hk=>⟨hk.1,⟨hk.2.1,⟨hk.2.1,⟨hk.2.2.1,⟨hk.2.2.2.1,hk.2.2.2.2⟩⟩⟩⟩⟩))⟩,⟨hq BK113.out⟩,⟨hq BK114.out⟩,⟨bg HB.out GE113 GE114⟩⟩
      case round =>
       clear H'
       try clear c1
       try clear c2
       try clear p2
       try clear c3
       try clear c4
       try clear c5
       try clear c6
       try clear c11
       try clear c11b0
       try clear c11b1
       try clear c12
       try clear c13
       try clear c13b0
       try clear c13b1
       try clear c18
       try clear c19
       try clear c22
       try clear c23
       try clear c26
       try clear c28
       try clear c31
       try clear c33
       try clear c39
       try clear c57
       try clear c57b0
       try clear c57b1
       try clear c58
       try clear c58b0
       try clear c60
       try clear c60b0
       try clear c60b1
       try clear c62
       try clear c62b0
       try clear c62b1
       try clear c64
       try clear c64b0
       try clear c64b1
       try clear c65
       try clear hcz20_0
       try clear hcz20_1
       try clear hcz23_0
       try clear hcz23_1
       try clear hcz40_0
       try clear hcz40_1
       try clear hcz43_0
       try clear hcz43_1
       try clear hcz47_0
       try clear hcz47_1
       try clear hcz49_0
       try clear hcz49_1
       try clear hfz20_0
       try clear hfz20_1
       try clear hfz23_0
       try clear hfz23_1
       try clear hfz40_0
       try clear hfz40_1
       try clear hfz43_0
       try clear hfz43_1
       try clear hfz47_0
       try clear hfz47_1
       try clear hfz49_0
       try clear hfz49_1
       try clear p2
       obtain ⟨x108_2,rfl,HA,HK2,HO_15,HO_16,HO_106,HO_114000,HO_114001,HO_115000,HO_115001,BK113,BK114,HB⟩:=hrel
       cases gk with
       | zero=>exact absurd HA.out (by simp [q2.l0])
       | succ k2 =>
        have H:=HA.out
        clear HA
        simp only [q2.l0] at H
        by_cases c66:x108_2 < (t126.length:Int)
        ·rw [if_pos c66] at H
         have c66b0:decide (x108_2 < (t126.length:Int)) = true:=decide_eq_true c66
         clear c66
         by_cases c67:0 ≤ x108_2
         ·rw [if_pos c67] at H
          have c67b0:decide (0 ≤ x108_2) = true:=decide_eq_true c67
          clear c67
          by_cases c68:x108_2 < (t126.length:Int)
          ·rw [if_pos c68] at H
           have c68b0:decide (x108_2 < (t126.length:Int)) = true:=decide_eq_true c68
           clear c68
           have HC69:=Aside0.mk H
           clear H
           have p133:0 ≤ (x108_2:Int):=oA
           have q133:x108_2 < (t126.length:Int):=oA
           obtain ⟨ad133,e133,hx133_0⟩:=Kd.at_int (Kd.R_reads' HO_106.out).2.2 x108_2 p133 q133
           cases e133
           replace p133:=eq_true p133
           replace q133:=eq_true q133
           go_upto_region 15 with (fail)
           go_cut [121] (fun v121 wc=>∃ (kq:Nat) (x121_68:Bool),v121 = .bool x121_68 ∧ Aside0 (q2.j2 kq t117 t115 t119 t120 t126 t129 t130 x108_2 (rd t126 x108_2) t126 (t126.length:Int) x108_2 x121_68 t101 t104 = some r) ∧ Aside0 (kq ≤ k2) ∧ Aside0 (Kd.R (Kd.int .i64) 3 wc w.heap.size (fun k_=>some k_ ≠ ((.slice (some ad133) t126.length co56):Value).ownBlock ∧ some k_ ≠ ((.slice (some ad133) t126.length co56):Value).ownBlock ∧ some k_ ≠ ((.slice Ao38 t101.length co38):Value).ownBlock ∧ some k_ ≠ ((.slice Ao41 t104.length co41):Value).ownBlock ∧ some k_ ≠ ((.slice Ao42 t107.length co42):Value).ownBlock ∧ some k_ ≠ ((.slice Ao44 t110.length co44):Value).ownBlock) (.slice Ao55 t120.length co55) t120) ∧ Aside0 (Kd.R (Kd.int .i64) 3 wc w.heap.size (fun k_=>some k_ ≠ ((.slice Ao55 t120.length co55):Value).ownBlock ∧ some k_ ≠ ((.slice Ao38 t101.length co38):Value).ownBlock ∧ some k_ ≠ ((.slice Ao41 t104.length co41):Value).ownBlock ∧ some k_ ≠ ((.slice Ao42 t107.length co42):Value).ownBlock ∧ some k_ ≠ ((.slice Ao44 t110.length co44):Value).ownBlock) (.slice (some ad133) t126.length co56) t126) ∧ Aside0 (Kd.R (Kd.int .i64) 3 wc w.heap.size (fun k_=>some k_ ≠ ((.slice Ao55 t120.length co55):Value).ownBlock ∧ some k_ ≠ ((.slice Ao38 t101.length co38):Value).ownBlock ∧ some k_ ≠ ((.slice Ao41 t104.length co41):Value).ownBlock ∧ some k_ ≠ ((.slice Ao42 t107.length co42):Value).ownBlock ∧ some k_ ≠ ((.slice Ao44 t110.length co44):Value).ownBlock) (.slice (some ad133) t126.length co56) t126) ∧ Aside0 (Kd.R (Kd.int .i64) 3 wc w.heap.size (fun k_=>some k_ ≠ ((.slice Ao55 t120.length co55):Value).ownBlock ∧ some k_ ≠ ((.slice (some ad133) t126.length co56):Value).ownBlock ∧ some k_ ≠ ((.slice (some ad133) t126.length co56):Value).ownBlock ∧ some k_ ≠ ((.slice Ao41 t104.length co41):Value).ownBlock ∧ some k_ ≠ ((.slice Ao42 t107.length co42):Value).ownBlock ∧ some k_ ≠ ((.slice Ao44 t110.length co44):Value).ownBlock) (.slice Ao38 t101.length co38) t101) ∧ Aside0 (Kd.R (Kd.int .i64) 3 wc w.heap.size (fun k_=>some k_ ≠ ((.slice Ao55 t120.length co55):Value).ownBlock ∧ some k_ ≠ ((.slice (some ad133) t126.length co56):Value).ownBlock ∧ some k_ ≠ ((.slice (some ad133) t126.length co56):Value).ownBlock ∧ some k_ ≠ ((.slice Ao38 t101.length co38):Value).ownBlock ∧ some k_ ≠ ((.slice Ao42 t107.length co42):Value).ownBlock ∧ some k_ ≠ ((.slice Ao44 t110.length co44):Value).ownBlock) (.slice Ao41 t104.length co41) t104) ∧ Aside0 (Kd.R (Kd.int .i64) 3 wc w.heap.size (fun k_=>some k_ ≠ ((.slice Ao55 t120.length co55):Value).ownBlock ∧ some k_ ≠ ((.slice (some ad133) t126.length co56):Value).ownBlock ∧ some k_ ≠ ((.slice (some ad133) t126.length co56):Value).ownBlock ∧ some k_ ≠ ((.slice Ao38 t101.length co38):Value).ownBlock ∧ some k_ ≠ ((.slice Ao41 t104.length co41):Value).ownBlock ∧ some k_ ≠ ((.slice Ao44 t110.length co44):Value).ownBlock) (.slice Ao42 t107.length co42) t107) ∧ Aside0 (Kd.R (Kd.int .i64) 3 wc w.heap.size (fun k_=>some k_ ≠ ((.slice Ao55 t120.length co55):Value).ownBlock ∧ some k_ ≠ ((.slice (some ad133) t126.length co56):Value).ownBlock ∧ some k_ ≠ ((.slice (some ad133) t126.length co56):Value).ownBlock ∧ some k_ ≠ ((.slice Ao38 t101.length co38):Value).ownBlock ∧ some k_ ≠ ((.slice Ao41 t104.length co41):Value).ownBlock ∧ some k_ ≠ ((.slice Ao42 t107.length co42):Value).ownBlock) (.slice Ao44 t110.length co44) t110) ∧ Aside0 (wc.heap[gb113]? = some (.cells #[(.slice Ao38 t101.length co38),(.slice Ao41 t104.length co41)] 24 (0,0))) ∧ Aside0 (wc.heap[gb114]? = some (.cells #[(.slice Ao42 t107.length co42),(.slice Ao44 t110.length co44)] 25 (0,0))) ∧ Aside0 (Below w.heap.size w wc))
           case first =>
            have H:=HC69.out
            clear HC69
            by_cases c70:(rd t126 x108_2) < 0
            ·rw [if_pos c70] at H
             have c70b0:decide ((rd t126 x108_2) < 0) = true:=decide_eq_true c70
             clear c70
             (first|rw [c70b0]|(simp only [i64_w,i32_w];rw [c70b0])|skip)
             exact absurd H (by rw [hrt_.out];cases k2 <;> simp [q2.j2])
            ·rw [if_neg c70] at H
             have c70b0:decide ((rd t126 x108_2) < 0) = false:=decide_eq_false c70
             clear c70
             (first|rw [c70b0]|(simp only [i64_w,i32_w];rw [c70b0])|skip)
             have H':=Aside0.mk H
             clear H
             have hnb71:=NB113_114.out
             have hnc71:=NB114_113.out
             have hcz72_0:wr.cell? ⟨gb113,0,none⟩ = some (.slice Ao38 t101.length co38):=(blk_cell BK113.out 0).trans rfl
             have hcz72_1:wr.cell? ⟨gb113,1,none⟩ = some (.slice Ao41 t104.length co41):=(blk_cell BK113.out 1).trans rfl
             have hfz72_0:=blk_frozen BK113.out 0
             have hfz72_1:=blk_frozen BK113.out 1
             go_wp2
             first|go_meet|(simp only [← hji10,← hji12];go_meet)
             case rel=>exact ⟨_,(decide ((rd t126 x108_2) ≥ (t101.length:Int))),oE,(by first|exact H'|exact ⟨by simp only [hji10,hji12];exact H'.out⟩),⟨by have:=HJ33.out;have:=HK2.out;first|omega|exact Nat.le_refl _⟩,⟨rq HO_15.out⟩,⟨rq HO_16.out⟩,⟨rq HO_106.out⟩,⟨rq HO_114000.out⟩,⟨rq HO_114001.out⟩,⟨rq HO_115000.out⟩,⟨rq HO_115001.out⟩,⟨hq BK113.out⟩,⟨hq BK114.out⟩,⟨bg HB.out GE113 GE114⟩⟩
           case rest =>
            clear HC69
            try clear c1
            try clear p1
            try clear q1
            try clear hx1
            try clear c2
            try clear p2
            try clear c3
            try clear c4
            try clear c5
            try clear c6
            try clear c7
            try clear c11
            try clear c11b0
            try clear c11b1
            try clear c12
            try clear c13
            try clear c13b0
            try clear c13b1
            try clear p13
            try clear q13
            try clear hx13
            try clear c18
            try clear c19
            try clear c22
            try clear c23
            try clear c26
            try clear c28
            try clear c31
            try clear c33
            try clear c39
            try clear c57
            try clear c57b0
            try clear c57b1
            try clear c58
            try clear c58b0
            try clear c60
            try clear c60b0
            try clear c60b1
            try clear c62
            try clear c62b0
            try clear c62b1
            try clear c64
            try clear c64b0
            try clear c64b1
            try clear c65
            try clear c66
            try clear c66b0
            try clear c67
            try clear c67b0
            try clear c68
            try clear c68b0
            try clear c70
            try clear c70b0
            try clear c71
            try clear hcz20_0
            try clear hcz20_1
            try clear hcz23_0
            try clear hcz23_1
            try clear hcz40_0
            try clear hcz40_1
            try clear hcz43_0
            try clear hcz43_1
            try clear hcz47_0
            try clear hcz47_1
            try clear hcz49_0
            try clear hcz49_1
            try clear hcz72_0
            try clear hcz72_1
            try clear hfz20_0
            try clear hfz20_1
            try clear hfz23_0
            try clear hfz23_1
            try clear hfz40_0
            try clear hfz40_1
            try clear hfz43_0
            try clear hfz43_1
            try clear hfz47_0
            try clear hfz47_1
            try clear hfz49_0
            try clear hfz49_1
            try clear hfz72_0
            try clear hfz72_1
            try clear hx133_0
            try clear p133
            try clear p2
            try clear q133
            obtain ⟨kq,x121_68,rfl,HA,HJ68,HO_15,HO_16,HO_106,HO_114000,HO_114001,HO_115000,HO_115001,BK113,BK114,HB⟩:=hcut
            cases kq with
            | zero=>exact absurd HA.out (by simp [q2.j2])
            | succ kj68 =>
             have H:=HA.out
             clear HA
             simp only [q2.j2] at H
             by_cases c73:x121_68 = true
             ·subst c73
              have H1:(some false) = some r:=by rw [if_pos rfl] at H;exact H
              clear H
              have H:=H1
              clear H1
              exact absurd (H.trans (congrArg some hrt_.out)) (by simp)
             ·replace c73:=Bool.eq_false_iff.mpr c73
              subst c73
              have H1:(if 0 ≤ (rd t126 x108_2) then (if (rd t126 x108_2) < (t104.length:Int) then (if (rd t104 (rd t126 x108_2)) = t119 then (q2.j3 kj68 t117 t115 t119 t120 t126 t129 t130 x108_2 (rd t104 (rd t126 x108_2)) t126 (t126.length:Int) x108_2 false t101 t104) else (q2.j3 kj68 t117 t115 t119 t120 t126 t129 t130 x108_2 (rd t104 (rd t126 x108_2)) t126 (t126.length:Int) x108_2 (decide ((rd t104 (rd t126 x108_2)) ≥ 0)) t101 t104)) else (none)) else (none)) = some r:=by rw [if_neg (show ¬ (false = true) by decide)] at H;exact H
              clear H
              have H:=H1
              clear H1
              by_cases c74:0 ≤ (rd t126 x108_2)
              ·rw [if_pos c74] at H
               have c74b0:decide (0 ≤ (rd t126 x108_2)) = true:=decide_eq_true c74
               clear c74
               by_cases c75:(rd t126 x108_2) < (t104.length:Int)
               ·rw [if_pos c75] at H
                have c75b0:decide ((rd t126 x108_2) < (t104.length:Int)) = true:=decide_eq_true c75
                clear c75
                have HC76:=Aside0.mk H
                clear H
                have hnb77:=NB113_114.out
                have hnc77:=NB114_113.out
                have hcz78_0:wc.cell? ⟨gb113,0,none⟩ = some (.slice Ao38 t101.length co38):=(blk_cell BK113.out 0).trans rfl
                have hcz78_1:wc.cell? ⟨gb113,1,none⟩ = some (.slice Ao41 t104.length co41):=(blk_cell BK113.out 1).trans rfl
                have hfz78_0:=blk_frozen BK113.out 0
                have hfz78_1:=blk_frozen BK113.out 1
                have p134:0 ≤ ((rd t126 x108_2):Int):=oA
                have q134:(rd t126 x108_2) < (t104.length:Int):=oA
                obtain ⟨ad134,e134,hx134_0⟩:=Kd.at_int (Kd.R_reads' HO_114001.out).2.2 (rd t126 x108_2) p134 q134
                cases e134
                replace p134:=eq_true p134
                replace q134:=eq_true q134
                go_upto_region 18 with (fail)
                go_cut [133] (fun v133 wc=>∃ (kq:Nat) (x133_75:Bool),v133 = .bool x133_75 ∧ Aside0 (q2.j3 kq t117 t115 t119 t120 t126 t129 t130 x108_2 (rd t104 (rd t126 x108_2)) t126 (t126.length:Int) x108_2 x133_75 t101 t104 = some r) ∧ Aside0 (kq ≤ kj68) ∧ Aside0 (Kd.R (Kd.int .i64) 3 wc w.heap.size (fun k_=>some k_ ≠ ((.slice (some ad133) t126.length co56):Value).ownBlock ∧ some k_ ≠ ((.slice (some ad133) t126.length co56):Value).ownBlock ∧ some k_ ≠ ((.slice Ao38 t101.length co38):Value).ownBlock ∧ some k_ ≠ ((.slice (some ad134) t104.length co41):Value).ownBlock ∧ some k_ ≠ ((.slice Ao42 t107.length co42):Value).ownBlock ∧ some k_ ≠ ((.slice Ao44 t110.length co44):Value).ownBlock) (.slice Ao55 t120.length co55) t120) ∧ Aside0 (Kd.R (Kd.int .i64) 3 wc w.heap.size (fun k_=>some k_ ≠ ((.slice Ao55 t120.length co55):Value).ownBlock ∧ some k_ ≠ ((.slice Ao38 t101.length co38):Value).ownBlock ∧ some k_ ≠ ((.slice (some ad134) t104.length co41):Value).ownBlock ∧ some k_ ≠ ((.slice Ao42 t107.length co42):Value).ownBlock ∧ some k_ ≠ ((.slice Ao44 t110.length co44):Value).ownBlock) (.slice (some ad133) t126.length co56) t126) ∧ Aside0 (Kd.R (Kd.int .i64) 3 wc w.heap.size (fun k_=>some k_ ≠ ((.slice Ao55 t120.length co55):Value).ownBlock ∧ some k_ ≠ ((.slice Ao38 t101.length co38):Value).ownBlock ∧ some k_ ≠ ((.slice (some ad134) t104.length co41):Value).ownBlock ∧ some k_ ≠ ((.slice Ao42 t107.length co42):Value).ownBlock ∧ some k_ ≠ ((.slice Ao44 t110.length co44):Value).ownBlock) (.slice (some ad133) t126.length co56) t126) ∧ Aside0 (Kd.R (Kd.int .i64) 3 wc w.heap.size (fun k_=>some k_ ≠ ((.slice Ao55 t120.length co55):Value).ownBlock ∧ some k_ ≠ ((.slice (some ad133) t126.length co56):Value).ownBlock ∧ some k_ ≠ ((.slice (some ad133) t126.length co56):Value).ownBlock ∧ some k_ ≠ ((.slice (some ad134) t104.length co41):Value).ownBlock ∧ some k_ ≠ ((.slice Ao42 t107.length co42):Value).ownBlock ∧ some k_ ≠ ((.slice Ao44 t110.length co44):Value).ownBlock) (.slice Ao38 t101.length co38) t101) ∧ Aside0 (Kd.R (Kd.int .i64) 3 wc w.heap.size (fun k_=>some k_ ≠ ((.slice Ao55 t120.length co55):Value).ownBlock ∧ some k_ ≠ ((.slice (some ad133) t126.length co56):Value).ownBlock ∧ some k_ ≠ ((.slice (some ad133) t126.length co56):Value).ownBlock ∧ some k_ ≠ ((.slice Ao38 t101.length co38):Value).ownBlock ∧ some k_ ≠ ((.slice Ao42 t107.length co42):Value).ownBlock ∧ some k_ ≠ ((.slice Ao44 t110.length co44):Value).ownBlock) (.slice (some ad134) t104.length co41) t104) ∧ Aside0 (Kd.R (Kd.int .i64) 3 wc w.heap.size (fun k_=>some k_ ≠ ((.slice Ao55 t120.length co55):Value).ownBlock ∧ some k_ ≠ ((.slice (some ad133) t126.length co56):Value).ownBlock ∧ some k_ ≠ ((.slice (some ad133) t126.length co56):Value).ownBlock ∧ some k_ ≠ ((.slice Ao38 t101.length co38):Value).ownBlock ∧ some k_ ≠ ((.slice (some ad134) t104.length co41):Value).ownBlock ∧ some k_ ≠ ((.slice Ao44 t110.length co44):Value).ownBlock) (.slice Ao42 t107.length co42) t107) ∧ Aside0 (Kd.R (Kd.int .i64) 3 wc w.heap.size (fun k_=>some k_ ≠ ((.slice Ao55 t120.length co55):Value).ownBlock ∧ some k_ ≠ ((.slice (some ad133) t126.length co56):Value).ownBlock ∧ some k_ ≠ ((.slice (some ad133) t126.length co56):Value).ownBlock ∧ some k_ ≠ ((.slice Ao38 t101.length co38):Value).ownBlock ∧ some k_ ≠ ((.slice (some ad134) t104.length co41):Value).ownBlock ∧ some k_ ≠ ((.slice Ao42 t107.length co42):Value).ownBlock) (.slice Ao44 t110.length co44) t110) ∧ Aside0 (wc.heap[gb113]? = some (.cells #[(.slice Ao38 t101.length co38),(.slice (some ad134) t104.length co41)] 24 (0,0))) ∧ Aside0 (wc.heap[gb114]? = some (.cells #[(.slice Ao42 t107.length co42),(.slice Ao44 t110.length co44)] 25 (0,0))) ∧ Aside0 (Below w.heap.size w wc))
                case first =>
                 have H:=HC76.out
                 clear HC76
                 by_cases c79:(rd t104 (rd t126 x108_2)) = t119
                 ·rw [if_pos c79] at H
                  have c79b0:((rd t104 (rd t126 x108_2)) == t119) = true:=beq_iff_eq.mpr c79
                  have c79b1:((rd t104 (rd t126 x108_2)) != t119) = false:=bne_eq_false_iff_eq.mpr c79
                  clear c79
                  (first|rw [c79b0]|(simp only [i64_w,i32_w];rw [c79b0])|skip)
                  have H':=Aside0.mk H
                  clear H
                  go_wp2
                  first|go_meet|(simp only [← hji10,← hji12];go_meet)
                  case rel=>exact ⟨_,(false),oE,(by first|exact H'|exact ⟨by simp only [hji10,hji12];exact H'.out⟩),⟨by have:=HJ33.out;have:=HK2.out;have:=HJ68.out;first|omega|exact Nat.le_refl _⟩,⟨rq HO_15.out⟩,⟨rq HO_16.out⟩,⟨rq HO_106.out⟩,⟨rq HO_114000.out⟩,⟨rq HO_114001.out⟩,⟨rq HO_115000.out⟩,⟨rq HO_115001.out⟩,⟨hq BK113.out⟩,⟨hq BK114.out⟩,⟨bg HB.out GE113 GE114⟩⟩
                 ·rw [if_neg c79] at H
                  have c79b0:((rd t104 (rd t126 x108_2)) == t119) = false:=beq_eq_false_iff_ne.mpr c79
                  have c79b1:((rd t104 (rd t126 x108_2)) != t119) = true:=bne_iff_ne.mpr c79
                  (first|rw [c79b0]|(simp only [i64_w,i32_w];rw [c79b0])|skip)
                  have H':=Aside0.mk H
                  clear H
                  go_wp2
                  first|go_meet|(simp only [← hji10,← hji12];go_meet)
                  case rel=>exact ⟨_,(decide ((rd t104 (rd t126 x108_2)) ≥ 0)),oE,(by first|exact H'|exact ⟨by simp only [hji10,hji12];exact H'.out⟩),⟨by have:=HJ33.out;have:=HK2.out;have:=HJ68.out;first|omega|exact Nat.le_refl _⟩,⟨rq HO_15.out⟩,⟨rq HO_16.out⟩,⟨rq HO_106.out⟩,⟨rq HO_114000.out⟩,⟨rq HO_114001.out⟩,⟨rq HO_115000.out⟩,⟨rq HO_115001.out⟩,⟨hq BK113.out⟩,⟨hq BK114.out⟩,⟨bg HB.out GE113 GE114⟩⟩
                case rest =>
                 clear HC76
                 try clear c1
                 try clear p1
                 try clear q1
                 try clear hx1
                 try clear c2
                 try clear p2
                 try clear c3
                 try clear c4
                 try clear c5
                 try clear c6
                 try clear c7
                 try clear c11
                 try clear c11b0
                 try clear c11b1
                 try clear c12
                 try clear c13
                 try clear c13b0
                 try clear c13b1
                 try clear p13
                 try clear q13
                 try clear hx13
                 try clear c18
                 try clear c19
                 try clear c22
                 try clear c23
                 try clear c26
                 try clear c28
                 try clear c31
                 try clear c33
                 try clear c39
                 try clear c57
                 try clear c57b0
                 try clear c57b1
                 try clear c58
                 try clear c58b0
                 try clear c60
                 try clear c60b0
                 try clear c60b1
                 try clear c62
                 try clear c62b0
                 try clear c62b1
                 try clear c64
                 try clear c64b0
                 try clear c64b1
                 try clear c65
                 try clear c66
                 try clear c66b0
                 try clear c67
                 try clear c67b0
                 try clear c68
                 try clear c68b0
                 try clear c70
                 try clear c70b0
                 try clear c71
                 try clear c73
                 try clear c74
                 try clear c74b0
                 try clear c75
                 try clear c75b0
                 try clear c77
                 try clear c79
                 try clear c79b0
                 try clear c79b1
                 try clear hcz20_0
                 try clear hcz20_1
                 try clear hcz23_0
                 try clear hcz23_1
                 try clear hcz40_0
                 try clear hcz40_1
                 try clear hcz43_0
                 try clear hcz43_1
                 try clear hcz47_0
                 try clear hcz47_1
                 try clear hcz49_0
                 try clear hcz49_1
                 try clear hcz72_0
                 try clear hcz72_1
                 try clear hcz78_0
                 try clear hcz78_1
                 try clear hfz20_0
                 try clear hfz20_1
                 try clear hfz23_0
                 try clear hfz23_1
                 try clear hfz40_0
                 try clear hfz40_1
                 try clear hfz43_0
                 try clear hfz43_1
                 try clear hfz47_0
                 try clear hfz47_1
                 try clear hfz49_0
                 try clear hfz49_1
                 try clear hfz72_0
                 try clear hfz72_1
                 try clear hfz78_0
                 try clear hfz78_1
                 try clear hx133_0
                 try clear hx134_0
                 try clear p1
                 try clear p13
                 try clear p133
                 try clear p134
                 try clear p2
                 try clear q1
                 try clear q13
                 try clear q133
                 try clear q134
                 obtain ⟨kq,x133_75,rfl,HA,HJ75,HO_15,HO_16,HO_106,HO_114000,HO_114001,HO_115000,HO_115001,BK113,BK114,HB⟩:=hcut
                 cases kq with
                 | zero=>exact absurd HA.out (by simp [q2.j3])
                 | succ kj75 =>
                  have H:=HA.out
                  clear HA
                  simp only [q2.j3] at H
                  by_cases c80:x133_75 = true
                  ·subst c80
                   have H1:(if 0 ≤ x108_2 then (if x108_2 ≤ (t126.length:Int) then ((some (t126.take (x108_2:Int).toNat:List Int)).bind fun y135=>(q2.l1 kj75 t117 t115 t119 t120 t126 t129 t130 (rd t104 (rd t126 x108_2)) false t126 (t126.length:Int) x108_2 y135 (y135.length:Int) 0 t101 t104)) else (none)) else (none)) = some r:=by rw [if_pos rfl] at H;exact H
                   clear H
                   have H:=H1
                   clear H1
                   by_cases c81:0 ≤ x108_2
                   ·rw [if_pos c81] at H
                    have c81b0:=eq_true c81
                    have c81b1:decide (0 ≤ x108_2) = true:=decide_eq_true c81
                    clear c81
                    by_cases c82:x108_2 ≤ (t126.length:Int)
                    ·rw [if_pos c82] at H
                     have c82b0:=eq_true c82
                     have c82b1:decide (x108_2 ≤ (t126.length:Int)) = true:=decide_eq_true c82
                     clear c82
                     obtain ⟨y135,hy135⟩:∃ y_:List Int,y_ = (t126.take (x108_2:Int).toNat):=⟨_,rfl⟩
                     replace H:(q2.l1 kj75 t117 t115 t119 t120 t126 t129 t130 (rd t104 (rd t126 x108_2)) false t126 (t126.length:Int) x108_2 y135 (y135.length:Int) 0 t101 t104) = some r:=by first|(rw [hy135];with_reducible exact H)|(have H2_:=(Option.bind_some _ _).symm.trans H;rw [hy135];with_reducible exact H2_)|(have H2_:=(Option.bind_some _ _).symm.trans H;with_reducible exact H2_)|with_reducible exact H|(rw [hy135];exact H)|exact H
                     have Ny135:=Aside0.mk hy135
                     clear hy135
                     have H':=Aside0.mk H
                     clear H
                     have q83:(x108_2:Int) ≤ ((t126.length:Int):Int):=oA
                     obtain ⟨i083,hi083,_,hsz83,_⟩:=info_parts info3
                     have hroom83:t126.length ≤ co56:=(Kd.R_reads' HO_16.out).2.1
                     have hC83:Kd.C (Kd.int .i64) _ (some ad133) t126.length t126:=(Kd.R_reads' HO_16.out).2.2
                     have hcut83:=cut_to (P:=Try.prog) 22 3 .i64 Try.underlying22 hi083 (some ad133) t126.length co56 x108_2 oA q83 hroom83
                     have hr83:=Kd.C_take (m:=(x108_2:Int).toNat) hC83 (by omega)
                     have hy83:y135.length = (x108_2:Int).toNat:=(by rw [Ny135.out,List.length_take];omega)
                     rw [← Ny135.out] at hr83
                     rw [← hy83] at hcut83
                     have HR138:=Aside0.mk hr83
                     have HC138:=zk (show y135.length ≤ co56 from by omega)
                     clear hr83 hC83 hroom83 hi083 hsz83
                     have KY83:=Aside0.mk hy83
                     clear hy83
                     have KL83:=zk (show (x108_2:Int).toNat ≤ t126.length from by omega)
                     replace q83:=eq_true q83
                     go_wp2
                     go_loopg [22,138] kj75 (fun kq v22 v138 w'=>∃ (x22_5:Bool) (x138_5:Int),v22 = .bool x22_5 ∧ v138 = .int .i64 x138_5 ∧ Aside0 (q2.l1 kq t117 t115 t119 t120 t126 t129 t130 (rd t104 (rd t126 x108_2)) x22_5 t126 (t126.length:Int) x108_2 y135 (y135.length:Int) x138_5 t101 t104 = some r) ∧ Aside0 (kq ≤ kj75) ∧ Aside0 (Kd.R (Kd.int .i64) 3 w' w.heap.size (fun k_=>some k_ ≠ ((.slice (some ad133) t126.length co56):Value).ownBlock ∧ some k_ ≠ ((.slice (some ad133) t126.length co56):Value).ownBlock ∧ some k_ ≠ ((.slice Ao38 t101.length co38):Value).ownBlock ∧ some k_ ≠ ((.slice (some ad134) t104.length co41):Value).ownBlock ∧ some k_ ≠ ((.slice Ao42 t107.length co42):Value).ownBlock ∧ some k_ ≠ ((.slice Ao44 t110.length co44):Value).ownBlock) (.slice Ao55 t120.length co55) t120) ∧ Aside0 (Kd.R (Kd.int .i64) 3 w' w.heap.size (fun k_=>some k_ ≠ ((.slice Ao55 t120.length co55):Value).ownBlock ∧ some k_ ≠ ((.slice Ao38 t101.length co38):Value).ownBlock ∧ some k_ ≠ ((.slice (some ad134) t104.length co41):Value).ownBlock ∧ some k_ ≠ ((.slice Ao42 t107.length co42):Value).ownBlock ∧ some k_ ≠ ((.slice Ao44 t110.length co44):Value).ownBlock) (.slice (some ad133) t126.length co56) t126) ∧ Aside0 (Kd.R (Kd.int .i64) 3 w' w.heap.size (fun k_=>some k_ ≠ ((.slice Ao55 t120.length co55):Value).ownBlock ∧ some k_ ≠ ((.slice Ao38 t101.length co38):Value).ownBlock ∧ some k_ ≠ ((.slice (some ad134) t104.length co41):Value).ownBlock ∧ some k_ ≠ ((.slice Ao42 t107.length co42):Value).ownBlock ∧ some k_ ≠ ((.slice Ao44 t110.length co44):Value).ownBlock) (.slice (some ad133) t126.length co56) t126) ∧ Aside0 (Kd.R (Kd.int .i64) 3 w' w.heap.size (fun k_=>some k_ ≠ ((.slice Ao55 t120.length co55):Value).ownBlock ∧ some k_ ≠ ((.slice (some ad133) t126.length co56):Value).ownBlock ∧ some k_ ≠ ((.slice (some ad133) t126.length co56):Value).ownBlock ∧ some k_ ≠ ((.slice (some ad134) t104.length co41):Value).ownBlock ∧ some k_ ≠ ((.slice Ao42 t107.length co42):Value).ownBlock ∧ some k_ ≠ ((.slice Ao44 t110.length co44):Value).ownBlock) (.slice Ao38 t101.length co38) t101) ∧ Aside0 (Kd.R (Kd.int .i64) 3 w' w.heap.size (fun k_=>some k_ ≠ ((.slice Ao55 t120.length co55):Value).ownBlock ∧ some k_ ≠ ((.slice (some ad133) t126.length co56):Value).ownBlock ∧ some k_ ≠ ((.slice (some ad133) t126.length co56):Value).ownBlock ∧ some k_ ≠ ((.slice Ao38 t101.length co38):Value).ownBlock ∧ some k_ ≠ ((.slice Ao42 t107.length co42):Value).ownBlock ∧ some k_ ≠ ((.slice Ao44 t110.length co44):Value).ownBlock) (.slice (some ad134) t104.length co41) t104) ∧ Aside0 (Kd.R (Kd.int .i64) 3 w' w.heap.size (fun k_=>some k_ ≠ ((.slice Ao55 t120.length co55):Value).ownBlock ∧ some k_ ≠ ((.slice (some ad133) t126.length co56):Value).ownBlock ∧ some k_ ≠ ((.slice (some ad133) t126.length co56):Value).ownBlock ∧ some k_ ≠ ((.slice Ao38 t101.length co38):Value).ownBlock ∧ some k_ ≠ ((.slice (some ad134) t104.length co41):Value).ownBlock ∧ some k_ ≠ ((.slice Ao44 t110.length co44):Value).ownBlock) (.slice Ao42 t107.length co42) t107) ∧ Aside0 (Kd.R (Kd.int .i64) 3 w' w.heap.size (fun k_=>some k_ ≠ ((.slice Ao55 t120.length co55):Value).ownBlock ∧ some k_ ≠ ((.slice (some ad133) t126.length co56):Value).ownBlock ∧ some k_ ≠ ((.slice (some ad133) t126.length co56):Value).ownBlock ∧ some k_ ≠ ((.slice Ao38 t101.length co38):Value).ownBlock ∧ some k_ ≠ ((.slice (some ad134) t104.length co41):Value).ownBlock ∧ some k_ ≠ ((.slice Ao42 t107.length co42):Value).ownBlock) (.slice Ao44 t110.length co44) t110) ∧ Aside0 (w'.heap[gb113]? = some (.cells #[(.slice Ao38 t101.length co38),(.slice (some ad134) t104.length co41)] 24 (0,0))) ∧ Aside0 (w'.heap[gb114]? = some (.cells #[(.slice Ao42 t107.length co42),(.slice Ao44 t110.length co44)] 25 (0,0))) ∧ Aside0 (Kd.C (Kd.int .i64) w' (some ad133) y135.length y135) ∧ Aside0 (Below w.heap.size w w'))
                     case atStart=>exact ⟨(false),(0),oE,oE,(by first|exact H'|exact ⟨by simp only [hji10,hji12];exact H'.out⟩),⟨Nat.le_refl _⟩,⟨rq HO_15.out⟩,⟨rq HO_16.out⟩,⟨rq HO_106.out⟩,⟨rq HO_114000.out⟩,⟨rq HO_114001.out⟩,⟨rq HO_115000.out⟩,⟨rq HO_115001.out⟩,⟨hq BK113.out⟩,⟨hq BK114.out⟩,⟨by repeat (first|(with_reducible exact HR138.out)|(with_reducible refine Kd.C_alloc ?_ _)|(with_reducible refine Kd.C_drewN ?_ _)|(with_reducible refine Kd.C_drew ?_)|exact HR138.out)⟩,⟨bg HB.out GE113 GE114⟩⟩
                     case round =>
                      clear H'
                      try clear c1
                      try clear p1
                      try clear q1
                      try clear hx1
                      try clear c2
                      try clear p2
                      try clear c3
                      try clear c4
                      try clear c5
                      try clear c6
                      try clear c7
                      try clear c8
                      try clear q8
                      try clear c11
                      try clear c11b0
                      try clear c11b1
                      try clear c12
                      try clear c13
                      try clear c13b0
                      try clear c13b1
                      try clear p13
                      try clear q13
                      try clear hx13
                      try clear c18
                      try clear c19
                      try clear c22
                      try clear c23
                      try clear c26
                      try clear c28
                      try clear c31
                      try clear c33
                      try clear c39
                      try clear c57
                      try clear c57b0
                      try clear c57b1
                      try clear c58
                      try clear c58b0
                      try clear c60
                      try clear c60b0
                      try clear c60b1
                      try clear c62
                      try clear c62b0
                      try clear c62b1
                      try clear c64
                      try clear c64b0
                      try clear c64b1
                      try clear c65
                      try clear c66
                      try clear c66b0
                      try clear c67
                      try clear c67b0
                      try clear c68
                      try clear c68b0
                      try clear c70
                      try clear c70b0
                      try clear c71
                      try clear c73
                      try clear c74
                      try clear c74b0
                      try clear c75
                      try clear c75b0
                      try clear c77
                      try clear c79
                      try clear c79b0
                      try clear c79b1
                      try clear c80
                      try clear c81
                      try clear c81b0
                      try clear c81b1
                      try clear c82
                      try clear c82b0
                      try clear c82b1
                      try clear q83
                      try clear hcz20_0
                      try clear hcz20_1
                      try clear hcz23_0
                      try clear hcz23_1
                      try clear hcz40_0
                      try clear hcz40_1
                      try clear hcz43_0
                      try clear hcz43_1
                      try clear hcz47_0
                      try clear hcz47_1
                      try clear hcz49_0
                      try clear hcz49_1
                      try clear hcz72_0
                      try clear hcz72_1
                      try clear hcz78_0
                      try clear hcz78_1
                      try clear hfz20_0
                      try clear hfz20_1
                      try clear hfz23_0
                      try clear hfz23_1
                      try clear hfz40_0
                      try clear hfz40_1
                      try clear hfz43_0
                      try clear hfz43_1
                      try clear hfz47_0
                      try clear hfz47_1
                      try clear hfz49_0
                      try clear hfz49_1
                      try clear hfz72_0
                      try clear hfz72_1
                      try clear hfz78_0
                      try clear hfz78_1
                      try clear hx133_0
                      try clear hx134_0
                      try clear p1
                      try clear p13
                      try clear p133
                      try clear p134
                      try clear p2
                      try clear q1
                      try clear q13
                      try clear q133
                      try clear q134
                      try clear q83
                      obtain ⟨x22_5,x138_5,rfl,rfl,HA,HK5,HO_15,HO_16,HO_106,HO_114000,HO_114001,HO_115000,HO_115001,BK113,BK114,HR138,HB⟩:=hrel
                      cases gk with
                      | zero=>exact absurd HA.out (by simp [q2.l1])
                      | succ k5 =>
                       have H:=HA.out
                       clear HA
                       simp only [q2.l1] at H
                       by_cases c84:x138_5 < (y135.length:Int)
                       ·rw [if_pos c84] at H
                        have c84b0:decide (x138_5 < (y135.length:Int)) = true:=decide_eq_true c84
                        clear c84
                        by_cases c85:0 ≤ x138_5
                        ·rw [if_pos c85] at H
                         have c85b0:decide (0 ≤ x138_5) = true:=decide_eq_true c85
                         clear c85
                         by_cases c86:x138_5 < (y135.length:Int)
                         ·rw [if_pos c86] at H
                          have c86b0:decide (x138_5 < (y135.length:Int)) = true:=decide_eq_true c86
                          clear c86
                          by_cases c87:x22_5 = true
                          ·subst c87
                           have H1:(q2.l1 k5 t117 t115 t119 t120 t126 t129 t130 (rd t104 (rd t126 x108_2)) true t126 (t126.length:Int) x108_2 y135 (y135.length:Int) (wrap64 (x138_5 + 1)) t101 t104) = some r:=by rw [if_pos rfl] at H;exact H
                           clear H
                           have H:=H1
                           clear H1
                           have H':=Aside0.mk H
                           clear H
                           have p139:0 ≤ (x138_5:Int):=oA
                           have q139:x138_5 < (y135.length:Int):=oA
                           obtain ⟨ad139,e139,hx139_0⟩:=Kd.at_int HR138.out x138_5 p139 q139
                           obtain rfl:ad133 = ad139:=(by injection e139)
                           replace p139:=eq_true p139
                           replace q139:=eq_true q139
                           go_wp2
                           go_roundg k5
                           case measure=>have:=HJ33.out;have:=HK2.out;have:=HJ68.out;have:=HJ75.out;have:=HK5.out;omega
                           case rel=>exact ⟨(true),(wrap64 (x138_5 + 1)),oE,oE,(by first|exact H'|exact ⟨by simp only [hji10,hji12];exact H'.out⟩),⟨by have:=HJ33.out;have:=HK2.out;have:=HJ68.out;have:=HJ75.out;have:=HK5.out;omega⟩,⟨rq HO_15.out⟩,⟨rq HO_16.out⟩,⟨rq HO_106.out⟩,⟨rq HO_114000.out⟩,⟨rq HO_114001.out⟩,⟨rq HO_115000.out⟩,⟨rq HO_115001.out⟩,⟨hq BK113.out⟩,⟨hq BK114.out⟩,⟨by repeat (first|(with_reducible exact HR138.out)|(with_reducible refine Kd.C_alloc ?_ _)|(with_reducible refine Kd.C_drewN ?_ _)|(with_reducible refine Kd.C_drew ?_)|exact HR138.out)⟩,⟨bg HB.out GE113 GE114⟩⟩
                          ·replace c87:=Bool.eq_false_iff.mpr c87
                           subst c87
                           have H1:(q2.l1 k5 t117 t115 t119 t120 t126 t129 t130 (rd t104 (rd t126 x108_2)) ((rd y135 x138_5) == (rd t104 (rd t126 x108_2))) t126 (t126.length:Int) x108_2 y135 (y135.length:Int) (wrap64 (x138_5 + 1)) t101 t104) = some r:=by rw [if_neg (show ¬ (false = true) by decide)] at H;exact H
                           clear H
                           have H:=H1
                           clear H1
                           have H':=Aside0.mk H
                           clear H
                           have p139:0 ≤ (x138_5:Int):=oA
                           have q139:x138_5 < (y135.length:Int):=oA
                           obtain ⟨ad139,e139,hx139_0⟩:=Kd.at_int HR138.out x138_5 p139 q139
                           obtain rfl:ad133 = ad139:=(by injection e139)
                           replace p139:=eq_true p139
                           replace q139:=eq_true q139
                           go_wp2
                           go_roundg k5
                           case measure=>have:=HJ33.out;have:=HK2.out;have:=HJ68.out;have:=HJ75.out;have:=HK5.out;omega
                           case rel=>exact ⟨(((rd y135 x138_5) == (rd t104 (rd t126 x108_2)))),(wrap64 (x138_5 + 1)),oE,oE,(by first|exact H'|exact ⟨by simp only [hji10,hji12];exact H'.out⟩),⟨by have:=HJ33.out;have:=HK2.out;have:=HJ68.out;have:=HJ75.out;have:=HK5.out;omega⟩,⟨rq HO_15.out⟩,⟨rq HO_16.out⟩,⟨rq HO_106.out⟩,⟨rq HO_114000.out⟩,⟨rq HO_114001.out⟩,⟨rq HO_115000.out⟩,⟨rq HO_115001.out⟩,⟨hq BK113.out⟩,⟨hq BK114.out⟩,⟨by repeat (first|(with_reducible exact HR138.out)|(with_reducible refine Kd.C_alloc ?_ _)|(with_reducible refine Kd.C_drewN ?_ _)|(with_reducible refine Kd.C_drew ?_)|exact HR138.out)⟩,⟨bg HB.out GE113 GE114⟩⟩
                         ·rw [if_neg c86] at H
                          exact absurd H (by simp)
                        ·rw [if_neg c85] at H
                         exact absurd H (by simp)
                       ·rw [if_neg c84] at H
                        have c84b0:decide (x138_5 < (y135.length:Int)) = false:=decide_eq_false c84
                        clear c84
                        by_cases c88:x22_5 = true
                        ·subst c88
                         have H1:(q2.l0 k5 t117 t115 t119 t120 t126 t129 t130 t126 (t126.length:Int) (wrap64 (x108_2 + 1)) t101 t104) = some r:=by rw [if_pos rfl] at H;exact H
                         clear H
                         have H:=H1
                         clear H1
                         have H':=Aside0.mk H
                         clear H
                         go_wp2
                         go_roundg k5
                         case measure=>have:=HJ33.out;have:=HK2.out;have:=HJ68.out;have:=HJ75.out;have:=HK5.out;omega
                         case rel=>exact ⟨(wrap64 (x108_2 + 1)),oE,(by first|exact H'|exact ⟨by simp only [hji10,hji12];exact H'.out⟩),⟨by have:=HJ33.out;have:=HK2.out;have:=HJ68.out;have:=HJ75.out;have:=HK5.out;omega⟩,⟨rq HO_15.out⟩,⟨rq HO_16.out⟩,⟨rq HO_106.out⟩,⟨rq HO_114000.out⟩,⟨rq HO_114001.out⟩,⟨rq HO_115000.out⟩,⟨rq HO_115001.out⟩,⟨hq BK113.out⟩,⟨hq BK114.out⟩,⟨bg HB.out GE113 GE114⟩⟩
                        ·replace c88:=Bool.eq_false_iff.mpr c88
                         subst c88
                         have H1:(some false) = some r:=by rw [if_neg (show ¬ (false = true) by decide)] at H;exact H
                         clear H
                         have H:=H1
                         clear H1
                         exact absurd (H.trans (congrArg some hrt_.out)) (by simp)
                    ·rw [if_neg c82] at H
                     exact absurd H (by simp)
                   ·rw [if_neg c81] at H
                    exact absurd H (by simp)
                  ·replace c80:=Bool.eq_false_iff.mpr c80
                   subst c80
                   have H1:(q2.l0 kj75 t117 t115 t119 t120 t126 t129 t130 t126 (t126.length:Int) (wrap64 (x108_2 + 1)) t101 t104) = some r:=by rw [if_neg (show ¬ (false = true) by decide)] at H;exact H
                   clear H
                   have H:=H1
                   clear H1
                   have H':=Aside0.mk H
                   clear H
                   go_wp2
                   go_roundg kj75
                   case measure=>have:=HJ33.out;have:=HK2.out;have:=HJ68.out;have:=HJ75.out;omega
                   case rel=>exact ⟨(wrap64 (x108_2 + 1)),oE,(by first|exact H'|exact ⟨by simp only [hji10,hji12];exact H'.out⟩),⟨by have:=HJ33.out;have:=HK2.out;have:=HJ68.out;have:=HJ75.out;omega⟩,⟨rq HO_15.out⟩,⟨rq HO_16.out⟩,⟨rq HO_106.out⟩,⟨rq HO_114000.out⟩,⟨rq HO_114001.out⟩,⟨rq HO_115000.out⟩,⟨rq HO_115001.out⟩,⟨hq BK113.out⟩,⟨hq BK114.out⟩,⟨bg HB.out GE113 GE114⟩⟩
               ·rw [if_neg c75] at H
                exact absurd H (by simp)
              ·rw [if_neg c74] at H
               exact absurd H (by simp)
          ·rw [if_neg c68] at H
           exact absurd H (by simp)
         ·rw [if_neg c67] at H
          exact absurd H (by simp)
        ·rw [if_neg c66] at H
         have c66b0:decide (x108_2 < (t126.length:Int)) = false:=decide_eq_false c66
         clear c66
         have H':=Aside0.mk H
         clear H
         go_wp2
         go_loopg [154] k2 (fun kq v154 w'=>∃ (x154_3:Int),v154 = .int .i64 x154_3 ∧ Aside0 (q2.l2 kq t117 t115 t120 t129 t130 t120 (t120.length:Int) x154_3 t101 t104 = some r) ∧ Aside0 (kq ≤ k2) ∧ Aside0 (Kd.R (Kd.int .i64) 3 w' w.heap.size (fun k_=>some k_ ≠ ((.slice Ao38 t101.length co38):Value).ownBlock ∧ some k_ ≠ ((.slice Ao41 t104.length co41):Value).ownBlock ∧ some k_ ≠ ((.slice Ao42 t107.length co42):Value).ownBlock ∧ some k_ ≠ ((.slice Ao44 t110.length co44):Value).ownBlock) (.slice Ao55 t120.length co55) t120) ∧ Aside0 (Kd.R (Kd.int .i64) 3 w' w.heap.size (fun k_=>some k_ ≠ ((.slice Ao38 t101.length co38):Value).ownBlock ∧ some k_ ≠ ((.slice Ao41 t104.length co41):Value).ownBlock ∧ some k_ ≠ ((.slice Ao42 t107.length co42):Value).ownBlock ∧ some k_ ≠ ((.slice Ao44 t110.length co44):Value).ownBlock) (.slice Ao55 t120.length co55) t120) ∧ Aside0 (Kd.R (Kd.int .i64) 3 w' w.heap.size (fun k_=>some k_ ≠ ((.slice Ao55 t120.length co55):Value).ownBlock ∧ some k_ ≠ ((.slice Ao55 t120.length co55):Value).ownBlock ∧ some k_ ≠ ((.slice Ao41 t104.length co41):Value).ownBlock ∧ some k_ ≠ ((.slice Ao42 t107.length co42):Value).ownBlock ∧ some k_ ≠ ((.slice Ao44 t110.length co44):Value).ownBlock) (.slice Ao38 t101.length co38) t101) ∧ Aside0 (Kd.R (Kd.int .i64) 3 w' w.heap.size (fun k_=>some k_ ≠ ((.slice Ao55 t120.length co55):Value).ownBlock ∧ some k_ ≠ ((.slice Ao55 t120.length co55):Value).ownBlock ∧ some k_ ≠ ((.slice Ao38 t101.length co38):Value).ownBlock ∧ some k_ ≠ ((.slice Ao42 t107.length co42):Value).ownBlock ∧ some k_ ≠ ((.slice Ao44 t110.length co44):Value).ownBlock) (.slice Ao41 t104.length co41) t104) ∧ Aside0 (Kd.R (Kd.int .i64) 3 w' w.heap.size (fun k_=>some k_ ≠ ((.slice Ao55 t120.length co55):Value).ownBlock ∧ some k_ ≠ ((.slice Ao55 t120.length co55):Value).ownBlock ∧ some k_ ≠ ((.slice Ao38 t101.length co38):Value).ownBlock ∧ some k_ ≠ ((.slice Ao41 t104.length co41):Value).ownBlock ∧ some k_ ≠ ((.slice Ao44 t110.length co44):Value).ownBlock) (.slice Ao42 t107.length co42) t107) ∧ Aside0 (Kd.R (Kd.int .i64) 3 w' w.heap.size (fun k_=>some k_ ≠ ((.slice Ao55 t120.length co55):Value).ownBlock ∧ some k_ ≠ ((.slice Ao55 t120.length co55):Value).ownBlock ∧ some k_ ≠ ((.slice Ao38 t101.length co38):Value).ownBlock ∧ some k_ ≠ ((.slice Ao41 t104.length co41):Value).ownBlock ∧ some k_ ≠ ((.slice Ao42 t107.length co42):Value).ownBlock) (.slice Ao44 t110.length co44) t110) ∧ Aside0 (w'.heap[gb113]? = some (.cells #[(.slice Ao38 t101.length co38),(.slice Ao41 t104.length co41)] 24 (0,0))) ∧ Aside0 (w'.heap[gb114]? = some (.cells #[(.slice Ao42 t107.length co42),(.slice Ao44 t110.length co44)] 25 (0,0))) ∧ Aside0 (Below w.heap.size w w'))
         case atStart=>exact ⟨(0),oE,(by first|exact H'|exact ⟨by simp only [hji10,hji12];exact H'.out⟩),⟨Nat.le_refl _⟩,⟨rq (Kd.R_mono HO_15.out (fun _ hk=>⟨hk.2.2.1,⟨hk.2.2.2.1,⟨hk.2.2.2.2.1,hk.2.2.2.2.2⟩⟩⟩))⟩,⟨rq (Kd.R_mono HO_15.out (fun _ hk=>⟨hk.2.2.1,⟨hk.2.2.2.1,⟨hk.2.2.2.2.1,hk.2.2.2.2.2⟩⟩⟩))⟩,⟨rq (Kd.R_mono HO_114000.out (fun _ hk=>⟨hk.1,⟨hk.1,⟨hk.2.2.2.1,⟨hk.2.2.2.2.1,hk.2.2.2.2.2⟩⟩⟩⟩))⟩,⟨rq (Kd.R_mono HO_114001.out (fun _ hk=>⟨hk.1,⟨hk.1,⟨hk.2.2.2.1,⟨hk.2.2.2.2.1,hk.2.2.2.2.2⟩⟩⟩⟩))⟩,⟨rq (Kd.R_mono HO_115000.out (fun _ hk=>⟨hk.1,⟨hk.1,⟨hk.2.2.2.1,⟨hk.2.2.2.2.1,hk.2.2.2.2.2⟩⟩⟩⟩))⟩,⟨rq (Kd.R_mono HO_115001.out (fun _ hk=>⟨hk.1,⟨hk.1,⟨hk.2.2.2.1,⟨hk.2.2.2.2.1,hk.2.2.2.2.2⟩⟩⟩⟩))⟩,⟨hq BK113.out⟩,⟨hq BK114.out⟩,⟨bg HB.out GE113 GE114⟩⟩
         case round =>
          clear H'
          try clear c1
          try clear p1
          try clear q1
          try clear hx1
          try clear c2
          try clear p2
          try clear c3
          try clear c4
          try clear c5
          try clear c6
          try clear p6
          try clear c7
          try clear c8
          try clear q8
          try clear c11
          try clear c11b0
          try clear c11b1
          try clear c12
          try clear c13
          try clear c13b0
          try clear c13b1
          try clear p13
          try clear q13
          try clear hx13
          try clear c18
          try clear c19
          try clear c22
          try clear c23
          try clear c26
          try clear c28
          try clear c31
          try clear c33
          try clear c39
          try clear c57
          try clear c57b0
          try clear c57b1
          try clear c58
          try clear c58b0
          try clear c60
          try clear c60b0
          try clear c60b1
          try clear c62
          try clear c62b0
          try clear c62b1
          try clear c64
          try clear c64b0
          try clear c64b1
          try clear p64
          try clear c65
          try clear c66
          try clear c66b0
          try clear c67
          try clear c67b0
          try clear c68
          try clear c68b0
          try clear c70
          try clear c70b0
          try clear c71
          try clear c73
          try clear c74
          try clear c74b0
          try clear c75
          try clear c75b0
          try clear c77
          try clear c79
          try clear c79b0
          try clear c79b1
          try clear c80
          try clear c81
          try clear c81b0
          try clear c81b1
          try clear c82
          try clear c82b0
          try clear c82b1
          try clear q83
          try clear c84
          try clear c84b0
          try clear c85
          try clear c85b0
          try clear c86
          try clear c86b0
          try clear c87
          try clear c88
          try clear hcz20_0
          try clear hcz20_1
          try clear hcz23_0
          try clear hcz23_1
          try clear hcz40_0
          try clear hcz40_1
          try clear hcz43_0
          try clear hcz43_1
          try clear hcz47_0
          try clear hcz47_1
          try clear hcz49_0
          try clear hcz49_1
          try clear hcz72_0
          try clear hcz72_1
          try clear hcz78_0
          try clear hcz78_1
          try clear hfz20_0
          try clear hfz20_1
          try clear hfz23_0
          try clear hfz23_1
          try clear hfz40_0
          try clear hfz40_1
          try clear hfz43_0
          try clear hfz43_1
          try clear hfz47_0
          try clear hfz47_1
          try clear hfz49_0
          try clear hfz49_1
          try clear hfz72_0
          try clear hfz72_1
          try clear hfz78_0
          try clear hfz78_1
          try clear hx133_0
          try clear hx134_0
          try clear hx139_0
          try clear p1
          try clear p13
          try clear p133
          try clear p134
          try clear p139
          try clear p2
          try clear q1
          try clear q13
          try clear q133
          try clear q134
          try clear q139
          try clear q8
          try clear q83
          obtain ⟨x154_3,rfl,HA,HK3,HO_15,HO_152,HO_114000,HO_114001,HO_115000,HO_115001,BK113,BK114,HB⟩:=hrel
          cases gk with
          | zero=>exact absurd HA.out (by simp [q2.l2])
          | succ k3 =>
           have H:=HA.out
           clear HA
           simp only [q2.l2] at H
           by_cases c89:x154_3 < (t120.length:Int)
           ·rw [if_pos c89] at H
            have c89b0:decide (x154_3 < (t120.length:Int)) = true:=decide_eq_true c89
            clear c89
            by_cases c90:0 ≤ x154_3
            ·rw [if_pos c90] at H
             have c90b0:decide (0 ≤ x154_3) = true:=decide_eq_true c90
             clear c90
             by_cases c91:x154_3 < (t120.length:Int)
             ·rw [if_pos c91] at H
              have c91b0:decide (x154_3 < (t120.length:Int)) = true:=decide_eq_true c91
              clear c91
              by_cases c92:x154_3 > 0
              ·rw [if_pos c92] at H
               have c92b0:decide (0 < x154_3) = true:=decide_eq_true c92
               clear c92
               obtain ⟨ji93,hji93⟩:∃ j_:Int,(wrap64 (x154_3 - 1)) = j_:=⟨_,rfl⟩
               replace H:(if 0 ≤ (ji93) then (if (ji93) < (t120.length:Int) then (if (rd t120 x154_3) ≥ (rd t120 (ji93)) then (some false) else (q2.l2 k3 t117 t115 t120 t129 t130 t120 (t120.length:Int) (wrap64 (x154_3 + 1)) t101 t104)) else (none)) else (none)) = some r:=by first|(rw [hji93] at H;exact H)|(simp only [hji93] at H ⊢;exact H)
               have hji93w:(IntKind.i64.wrap (x154_3 - 1)) = ji93:=(i64_w _).trans hji93
               by_cases c94:0 ≤ (ji93)
               ·rw [if_pos c94] at H
                have c94b0:decide (0 ≤ (ji93)) = true:=decide_eq_true c94
                clear c94
                by_cases c95:(ji93) < (t120.length:Int)
                ·rw [if_pos c95] at H
                 have c95b0:decide ((ji93) < (t120.length:Int)) = true:=decide_eq_true c95
                 clear c95
                 by_cases c96:(rd t120 x154_3) ≥ (rd t120 (ji93))
                 ·rw [if_pos c96] at H
                  have c96b0:decide ((rd t120 (ji93)) ≤ (rd t120 x154_3)) = true:=decide_eq_true c96
                  clear c96
                  exact absurd (H.trans (congrArg some hrt_.out)) (by simp)
                 ·rw [if_neg c96] at H
                  have c96b0:decide ((rd t120 (ji93)) ≤ (rd t120 x154_3)) = false:=decide_eq_false c96
                  clear c96
                  have H':=Aside0.mk H
                  clear H
                  have p140:0 ≤ (x154_3:Int):=oA
                  have q140:x154_3 < (t120.length:Int):=oA
                  obtain ⟨ad140,e140,hx140_0⟩:=Kd.at_int (Kd.R_reads' HO_152.out).2.2 x154_3 p140 q140
                  cases e140
                  replace p140:=eq_true p140
                  replace q140:=eq_true q140
                  have p141:0 ≤ ((ji93):Int):=oA
                  have q141:(ji93) < (t120.length:Int):=oA
                  obtain ⟨ad141,e141,hx141_0⟩:=Kd.at_int (Kd.R_reads' HO_15.out).2.2 (ji93) p141 q141
                  obtain rfl:ad140 = ad141:=(by injection e141)
                  replace p141:=eq_true p141
                  replace q141:=eq_true q141
                  go_wp2
                  go_roundg k3
                  case measure=>have:=HJ33.out;have:=HK2.out;have:=HK3.out;omega
                  case rel=>exact ⟨(wrap64 (x154_3 + 1)),oE,(by first|exact H'|exact ⟨by simp only [hji10,hji12,hji93];exact H'.out⟩),⟨by have:=HJ33.out;have:=HK2.out;have:=HK3.out;omega⟩,⟨rq HO_15.out⟩,⟨rq HO_152.out⟩,⟨rq HO_114000.out⟩,⟨rq HO_114001.out⟩,⟨rq HO_115000.out⟩,⟨rq HO_115001.out⟩,⟨hq BK113.out⟩,⟨hq BK114.out⟩,⟨bg HB.out GE113 GE114⟩⟩
                ·rw [if_neg c95] at H
                 exact absurd H (by simp)
               ·rw [if_neg c94] at H
                exact absurd H (by simp)
              ·rw [if_neg c92] at H
               have c92b0:decide (0 < x154_3) = false:=decide_eq_false c92
               clear c92
               have H':=Aside0.mk H
               clear H
               have p140:0 ≤ (x154_3:Int):=oA
               have q140:x154_3 < (t120.length:Int):=oA
               obtain ⟨ad140,e140,hx140_0⟩:=Kd.at_int (Kd.R_reads' HO_152.out).2.2 x154_3 p140 q140
               cases e140
               replace p140:=eq_true p140
               replace q140:=eq_true q140
               go_wp2
               go_roundg k3
               case measure=>have:=HJ33.out;have:=HK2.out;have:=HK3.out;omega
               case rel=>exact ⟨(wrap64 (x154_3 + 1)),oE,(by first|exact H'|exact ⟨by simp only [hji10,hji12];exact H'.out⟩),⟨by have:=HJ33.out;have:=HK2.out;have:=HK3.out;omega⟩,⟨rq HO_15.out⟩,⟨rq HO_152.out⟩,⟨rq HO_114000.out⟩,⟨rq HO_114001.out⟩,⟨rq HO_115000.out⟩,⟨rq HO_115001.out⟩,⟨hq BK113.out⟩,⟨hq BK114.out⟩,⟨bg HB.out GE113 GE114⟩⟩
             ·rw [if_neg c91] at H
              exact absurd H (by simp)
            ·rw [if_neg c90] at H
             exact absurd H (by simp)
           ·rw [if_neg c89] at H
            have c89b0:decide (x154_3 < (t120.length:Int)) = false:=decide_eq_false c89
            clear c89
            have HC97:=Aside0.mk H
            clear H
            go_upto_region 34 with (fail)
            go_cut [27] (fun v27 wc=>∃ (kq:Nat) (x27_96:Bool),v27 = .bool x27_96 ∧ Aside0 (q2.j6 kq t115 t129 t130 x27_96 t101 t104 = some r) ∧ Aside0 (kq ≤ k3) ∧ Aside0 (Kd.R (Kd.int .i64) 3 wc w.heap.size (fun k_=>some k_ ≠ ((.slice Ao41 t104.length co41):Value).ownBlock ∧ some k_ ≠ ((.slice Ao42 t107.length co42):Value).ownBlock ∧ some k_ ≠ ((.slice Ao44 t110.length co44):Value).ownBlock) (.slice Ao38 t101.length co38) t101) ∧ Aside0 (Kd.R (Kd.int .i64) 3 wc w.heap.size (fun k_=>some k_ ≠ ((.slice Ao38 t101.length co38):Value).ownBlock ∧ some k_ ≠ ((.slice Ao42 t107.length co42):Value).ownBlock ∧ some k_ ≠ ((.slice Ao44 t110.length co44):Value).ownBlock) (.slice Ao41 t104.length co41) t104) ∧ Aside0 (Kd.R (Kd.int .i64) 3 wc w.heap.size (fun k_=>some k_ ≠ ((.slice Ao38 t101.length co38):Value).ownBlock ∧ some k_ ≠ ((.slice Ao41 t104.length co41):Value).ownBlock ∧ some k_ ≠ ((.slice Ao44 t110.length co44):Value).ownBlock) (.slice Ao42 t107.length co42) t107) ∧ Aside0 (Kd.R (Kd.int .i64) 3 wc w.heap.size (fun k_=>some k_ ≠ ((.slice Ao38 t101.length co38):Value).ownBlock ∧ some k_ ≠ ((.slice Ao41 t104.length co41):Value).ownBlock ∧ some k_ ≠ ((.slice Ao42 t107.length co42):Value).ownBlock) (.slice Ao44 t110.length co44) t110) ∧ Aside0 (wc.heap[gb113]? = some (.cells #[(.slice Ao38 t101.length co38),(.slice Ao41 t104.length co41)] 24 (0,0))) ∧ Aside0 (wc.heap[gb114]? = some (.cells #[(.slice Ao42 t107.length co42),(.slice Ao44 t110.length co44)] 25 (0,0))) ∧ Aside0 (Below w.heap.size w wc))
            case first =>
             have H:=HC97.out
             clear HC97
             by_cases c98:0 ≤ t117
             ·rw [if_pos c98] at H
              have c98b0:decide (0 ≤ t117) = true:=decide_eq_true c98
              clear c98
              (first|rw [c98b0]|(simp only [i64_w,i32_w];rw [c98b0])|skip)
              by_cases c99:t117 < (t101.length:Int)
              ·rw [if_pos c99] at H
               have c99b0:decide (t117 < (t101.length:Int)) = true:=decide_eq_true c99
               clear c99
               by_cases c100:(rd t101 t117) ≥ 3
               ·rw [if_pos c100] at H
                have c100b0:decide (3 ≤ (rd t101 t117)) = true:=decide_eq_true c100
                clear c100
                have H':=Aside0.mk H
                clear H
                have hnb101:=NB113_114.out
                have hnc101:=NB114_113.out
                have hcz102_0:wr.cell? ⟨gb113,0,none⟩ = some (.slice Ao38 t101.length co38):=(blk_cell BK113.out 0).trans rfl
                have hcz102_1:wr.cell? ⟨gb113,1,none⟩ = some (.slice Ao41 t104.length co41):=(blk_cell BK113.out 1).trans rfl
                have hfz102_0:=blk_frozen BK113.out 0
                have hfz102_1:=blk_frozen BK113.out 1
                have p142:0 ≤ (t117:Int):=oA
                have q142:t117 < (t101.length:Int):=oA
                obtain ⟨ad142,e142,hx142_0⟩:=Kd.at_int (Kd.R_reads' HO_114000.out).2.2 t117 p142 q142
                cases e142
                replace p142:=eq_true p142
                replace q142:=eq_true q142
                go_wp2
                first|go_meet|(simp only [← hji10,← hji12];go_meet)
                case rel=>exact ⟨_,(true),oE,(by first|exact H'|exact ⟨by simp only [hji10,hji12];exact H'.out⟩),⟨by have:=HJ33.out;have:=HK2.out;have:=HK3.out;first|omega|exact Nat.le_refl _⟩,⟨rq (Kd.R_mono HO_114000.out (fun _ hk=>⟨hk.2.2.1,⟨hk.2.2.2.1,hk.2.2.2.2⟩⟩))⟩,⟨rq (Kd.R_mono HO_114001.out (fun _ hk=>⟨hk.2.2.1,⟨hk.2.2.2.1,hk.2.2.2.2⟩⟩))⟩,⟨rq (Kd.R_mono HO_115000.out (fun _ hk=>⟨hk.2.2.1,⟨hk.2.2.2.1,hk.2.2.2.2⟩⟩))⟩,⟨rq (Kd.R_mono HO_115001.out (fun _ hk=>⟨hk.2.2.1,⟨hk.2.2.2.1,hk.2.2.2.2⟩⟩))⟩,⟨hq BK113.out⟩,⟨hq BK114.out⟩,⟨bg HB.out GE113 GE114⟩⟩
               ·rw [if_neg c100] at H
                have c100b0:decide (3 ≤ (rd t101 t117)) = false:=decide_eq_false c100
                clear c100
                obtain ⟨ji103,hji103⟩:∃ j_:Int,(IntKind.u64.wrap (t117)) = j_:=⟨_,rfl⟩
                replace H:(if 0 ≤ (ji103) then (q2.j6 k3 t115 t129 t130 ((Go.bits .and .u32 (shr .u32 t130 (ji103)) 1) == 1) t101 t104) else (none)) = some r:=by first|(rw [hji103] at H;exact H)|(simp only [hji103] at H ⊢;exact H)
                by_cases c104:0 ≤ (ji103)
                ·rw [if_pos c104] at H
                 have c104b0:=eq_true c104
                 have c104b1:decide (0 ≤ (ji103)) = true:=decide_eq_true c104
                 clear c104
                 obtain ⟨ji105,hji105⟩:∃ j_:Int,(shr .u32 t130 (ji103)) = j_:=⟨_,rfl⟩
                 replace H:(q2.j6 k3 t115 t129 t130 ((Go.bits .and .u32 (ji105) 1) == 1) t101 t104) = some r:=by first|(rw [hji105] at H;exact H)|(simp only [hji105] at H ⊢;exact H)
                 have hji105_:(t130 / 2 ^ min (ji103).toNat 32) = ji105:=hji105
                 have hji105z:(ji103) ≤ 32 → (t130 / 2 ^ (ji103).toNat) = ji105:=shr_small hji105
                 have H':=Aside0.mk H
                 clear H
                 have hnb106:=NB113_114.out
                 have hnc106:=NB114_113.out
                 have hcz107_0:wr.cell? ⟨gb113,0,none⟩ = some (.slice Ao38 t101.length co38):=(blk_cell BK113.out 0).trans rfl
                 have hcz107_1:wr.cell? ⟨gb113,1,none⟩ = some (.slice Ao41 t104.length co41):=(blk_cell BK113.out 1).trans rfl
                 have hfz107_0:=blk_frozen BK113.out 0
                 have hfz107_1:=blk_frozen BK113.out 1
                 have p142:0 ≤ (t117:Int):=oA
                 have q142:t117 < (t101.length:Int):=oA
                 obtain ⟨ad142,e142,hx142_0⟩:=Kd.at_int (Kd.R_reads' HO_114000.out).2.2 t117 p142 q142
                 cases e142
                 replace p142:=eq_true p142
                 replace q142:=eq_true q142
                 go_wp2
                 first|go_meet|(simp only [← hji10,← hji12,← hji103,← hji105];go_meet)
                 case rel=>exact ⟨_,(((Go.bits .and .u32 (ji105) 1) == 1)),(by first|rfl|(simp;done)|(simp only [← hji105] <;> (first|rfl|simp))|(simp [*];done)),(by first|exact H'|exact ⟨by simp only [hji10,hji12,hji103,hji105];exact H'.out⟩),⟨by have:=HJ33.out;have:=HK2.out;have:=HK3.out;first|omega|exact Nat.le_refl _⟩,⟨rq (Kd.R_mono HO_114000.out (fun _ hk=>⟨hk.2.2.1,⟨hk.2.2.2.1,hk.2.2.2.2⟩⟩))⟩,⟨rq (Kd.R_mono HO_114001.out (fun _ hk=>⟨hk.2.2.1,⟨hk.2.2.2.1,hk.2.2.2.2⟩⟩))⟩,⟨rq (Kd.R_mono HO_115000.out (fun _ hk=>⟨hk.2.2.1,⟨hk.2.2.2.1,hk.2.2.2.2⟩⟩))⟩,⟨rq (Kd.R_mono HO_115001.out (fun _ hk=>⟨hk.2.2.1,⟨hk.2.2.2.1,hk.2.2.2.2⟩⟩))⟩,⟨hq BK113.out⟩,⟨hq BK114.out⟩,⟨bg HB.out GE113 GE114⟩⟩
                ·rw [if_neg c104] at H
                 exact absurd H (by simp)
              ·rw [if_neg c99] at H
               exact absurd H (by simp)
             ·rw [if_neg c98] at H
              exact absurd H (by simp)
            case rest =>
             clear HC97
             try clear c1
             try clear p1
             try clear q1
             try clear hx1
             try clear c2
             try clear p2
             try clear c3
             try clear c4
             try clear c5
             try clear c6
             try clear p6
             try clear c7
             try clear c8
             try clear q8
             try clear c9
             try clear c10
             try clear c11
             try clear c11b0
             try clear c11b1
             try clear c12
             try clear c13
             try clear c13b0
             try clear c13b1
             try clear p13
             try clear q13
             try clear hx13
             try clear p14
             try clear q14
             try clear hx14
             try clear c18
             try clear c19
             try clear c22
             try clear c23
             try clear c26
             try clear c28
             try clear c31
             try clear c33
             try clear c39
             try clear c57
             try clear c57b0
             try clear c57b1
             try clear c58
             try clear c58b0
             try clear c60
             try clear c60b0
             try clear c60b1
             try clear c62
             try clear c62b0
             try clear c62b1
             try clear c64
             try clear c64b0
             try clear c64b1
             try clear p64
             try clear c65
             try clear c66
             try clear c66b0
             try clear c67
             try clear c67b0
             try clear c68
             try clear c68b0
             try clear c70
             try clear c70b0
             try clear c71
             try clear c73
             try clear c74
             try clear c74b0
             try clear c75
             try clear c75b0
             try clear c77
             try clear c79
             try clear c79b0
             try clear c79b1
             try clear c80
             try clear c81
             try clear c81b0
             try clear c81b1
             try clear c82
             try clear c82b0
             try clear c82b1
             try clear q83
             try clear c84
             try clear c84b0
             try clear c85
             try clear c85b0
             try clear c86
             try clear c86b0
             try clear c87
             try clear c88
             try clear c89
             try clear c89b0
             try clear c90
             try clear c90b0
             try clear c91
             try clear c91b0
             try clear c92
             try clear c92b0
             try clear c94
             try clear c94b0
             try clear c95
             try clear c95b0
             try clear c96
             try clear c96b0
             try clear c98
             try clear c98b0
             try clear c99
             try clear c99b0
             try clear c100
             try clear c100b0
             try clear c101
             try clear c104
             try clear c104b0
             try clear c104b1
             try clear c106
             try clear hcz102_0
             try clear hcz102_1
             try clear hcz107_0
             try clear hcz107_1
             try clear hcz20_0
             try clear hcz20_1
             try clear hcz23_0
             try clear hcz23_1
             try clear hcz40_0
             try clear hcz40_1
             try clear hcz43_0
             try clear hcz43_1
             try clear hcz47_0
             try clear hcz47_1
             try clear hcz49_0
             try clear hcz49_1
             try clear hcz72_0
             try clear hcz72_1
             try clear hcz78_0
             try clear hcz78_1
             try clear hfz102_0
             try clear hfz102_1
             try clear hfz107_0
             try clear hfz107_1
             try clear hfz20_0
             try clear hfz20_1
             try clear hfz23_0
             try clear hfz23_1
             try clear hfz40_0
             try clear hfz40_1
             try clear hfz43_0
             try clear hfz43_1
             try clear hfz47_0
             try clear hfz47_1
             try clear hfz49_0
             try clear hfz49_1
             try clear hfz72_0
             try clear hfz72_1
             try clear hfz78_0
             try clear hfz78_1
             try clear hx133_0
             try clear hx134_0
             try clear hx139_0
             try clear hx140_0
             try clear hx141_0
             try clear hx142_0
             try clear p1
             try clear p13
             try clear p133
             try clear p134
             try clear p139
             try clear p140
             try clear p141
             try clear p142
             try clear p2
             try clear p6
             try clear p64
             try clear q1
             try clear q13
             try clear q133
             try clear q134
             try clear q139
             try clear q140
             try clear q141
             try clear q142
             try clear q8
             try clear q83
             obtain ⟨kq,x27_96,rfl,HA,HJ96,HO_114000,HO_114001,HO_115000,HO_115001,BK113,BK114,HB⟩:=hcut
             cases kq with
             | zero=>exact absurd HA.out (by simp [q2.j6])
             | succ kj96 =>
              have H:=HA.out
              clear HA
              simp only [q2.j6] at H
              by_cases c108:x27_96 = true
              ·subst c108
               have H1:((q20.f kj96 t101 t104 (Go.bits .or .u32 (Go.bits .andNot .u32 t115 t129) t130)).bind fun t143=>(if t143 = true then ((q24.f t101 t104).bind fun t144=>((q13.f kj96 t144).bind fun t147=>((q20.f kj96 t101 t104 t147).bind fun t148=>(if t148 = true then ((q9.f kj96).bind fun t149=>(some t149)) else (some false))))) else (some false))) = some r:=by rw [if_pos rfl] at H;exact H
               clear H
               have H:=H1
               clear H1
               replace H:=Option.bind_eq_some_iff.mp H
               obtain ⟨t143,A1090,H⟩:=H
               replace H:(if t143 = true then ((q24.f t101 t104).bind fun t144=>((q13.f kj96 t144).bind fun t147=>((q20.f kj96 t101 t104 t147).bind fun t148=>(if t148 = true then ((q9.f kj96).bind fun t149=>(some t149)) else (some false))))) else (some false)) = some r:=H
               have A109:=Aside0.mk A1090
               clear A1090
               by_cases c110:t143 = true
               ·subst c110
                have H1:((q24.f t101 t104).bind fun t144=>((q13.f kj96 t144).bind fun t147=>((q20.f kj96 t101 t104 t147).bind fun t148=>(if t148 = true then ((q9.f kj96).bind fun t149=>(some t149)) else (some false))))) = some r:=by rw [if_pos rfl] at H;exact H
                clear H
                have H:=H1
                clear H1
                replace H:=Option.bind_eq_some_iff.mp H
                obtain ⟨t144,A1110,H⟩:=H
                replace H:((q13.f kj96 t144).bind fun t147=>((q20.f kj96 t101 t104 t147).bind fun t148=>(if t148 = true then ((q9.f kj96).bind fun t149=>(some t149)) else (some false)))) = some r:=H
                have A111:=Aside0.mk A1110
                clear A1110
                replace H:=Option.bind_eq_some_iff.mp H
                obtain ⟨t147,A1120,H⟩:=H
                replace H:((q20.f kj96 t101 t104 t147).bind fun t148=>(if t148 = true then ((q9.f kj96).bind fun t149=>(some t149)) else (some false))) = some r:=H
                have A112:=Aside0.mk A1120
                clear A1120
                replace H:=Option.bind_eq_some_iff.mp H
                obtain ⟨t148,A1130,H⟩:=H
                replace H:(if t148 = true then ((q9.f kj96).bind fun t149=>(some t149)) else (some false)) = some r:=H
                have A113:=Aside0.mk A1130
                clear A1130
                by_cases c114:t148 = true
                ·subst c114
                 have H1:((q9.f kj96).bind fun t149=>(some t149)) = some r:=by rw [if_pos rfl] at H;exact H
                 clear H
                 have H:=H1
                 clear H1
                 replace H:=Option.bind_eq_some_iff.mp H
                 obtain ⟨t149,A1150,H⟩:=H
                 replace H:(some t149) = some r:=H
                 have A115:=Aside0.mk A1150
                 clear A1150
                 obtain rfl:=Option.some.inj H
                 try go_wp2
                 have n0_:=zk (Kd.R_drew HO_114000.out)
                 have n1_:=zk (Kd.R_drew HO_114001.out)
                 have n2_:=zk (Kd.R_drew HO_115000.out)
                 have n3_:=zk (Kd.R_drew HO_115001.out)
                 have n4_:=zk (blk_drew BK113.out)
                 have n5_:=zk (blk_drew BK114.out)
                 have n6_:=zk (below_drew1 HB.out)
                 clear HO_114000
                 clear HO_114001
                 clear HO_115000
                 clear HO_115001
                 clear BK113
                 clear BK114
                 clear HB
                 have HO_114000:=n0_
                 have HO_114001:=n1_
                 have HO_115000:=n2_
                 have HO_115001:=n3_
                 have BK113:=n4_
                 have BK114:=n5_
                 have HB:=n6_
                 clear n0_ n1_ n2_ n3_ n4_ n5_ n6_
                 refine start_ (n:=21) (S:=fun w'=>w'.cell? ⟨gb113,0,none⟩ = some (.slice Ao38 t101.length co38) ∧ w'.cell? ⟨gb113,1,none⟩ = some (.slice Ao41 t104.length co41)) (ds:=[]) #[false,false,false,false,false,false,false,false,false,false,false,false,false,false,false,false,false,false,false,false,false] (by kernel_rfl) rfl rfl ⟨(blk_cell BK113.out 0).trans rfl,(blk_cell BK113.out 1).trans rfl⟩ (fun hHeld=>?_);refine with_tabW imprimaturlaw07_EnterProper.tab35 imprimaturlaw07_EnterProper.bits35 (fun HT_ HW_=>?_)
                 generalize wc.drew = w116 at HO_114000 HO_114001 HO_115000 HO_115001 BK113 BK114 HB hHeld ⊢
                 refine pure_ (i:=0) (N:=some 185) (v:=?_) (a':=?_) #[true,false,false,false,false,false,false,false,false,false,false,false,false,false,false,false,false,false,false,false,false] rfl rfl (any_of HT_.out (by kernel_rfl)) (fun _ _ _ h=>h) (Or.inl ⟨by rfl,?_⟩) ?_ ?_
                 rotate_left
                 ·intro w'
                  go_simp
                  with_reducible rfl
                 rotate_left
                 ·simp only [Act.put,List.setIfInBounds_toArray,List.set_cons_zero,List.set_cons_succ,i64_w,i32_w]
                  rfl
                 refine pure_ (i:=1) (N:=some 186) (v:=?_) (a':=?_) #[true,true,false,false,false,false,false,false,false,false,false,false,false,false,false,false,false,false,false,false,false] rfl rfl (any_of HT_.out (by kernel_rfl)) (fun _ _ _ h=>h) (Or.inl ⟨by rfl,?_⟩) ?_ ?_
                 rotate_left
                 ·intro w'
                  go_simp
                  with_reducible rfl
                 rotate_left
                 ·simp only [Act.put,List.setIfInBounds_toArray,List.set_cons_zero,List.set_cons_succ,i64_w,i32_w]
                  rfl
                 refine pure_ (i:=3) (N:=some 188) (v:=?_) (a':=?_) #[true,true,false,true,false,false,false,false,false,false,false,false,false,false,false,false,false,false,false,false,false] rfl rfl (any_of HT_.out (by kernel_rfl)) (fun _ _ _ h=>h) (Or.inl ⟨by rfl,?_⟩) ?_ ?_
                 rotate_left
                 ·intro w'
                  go_simp
                  with_reducible rfl
                 rotate_left
                 ·simp only [Act.put,List.setIfInBounds_toArray,List.set_cons_zero,List.set_cons_succ,i64_w,i32_w]
                  rfl
                 refine pure_ (i:=4) (N:=some 189) (v:=?_) (a':=?_) #[true,true,false,true,true,false,false,false,false,false,false,false,false,false,false,false,false,false,false,false,false] rfl rfl (any_of HT_.out (by kernel_rfl)) (fun _ _ _ h=>h) (Or.inl ⟨by rfl,?_⟩) ?_ ?_
                 rotate_left
                 ·intro w'
                  go_simp
                  with_reducible rfl
                 rotate_left
                 ·simp only [Act.put,List.setIfInBounds_toArray,List.set_cons_zero,List.set_cons_succ,i64_w,i32_w]
                  rfl
                 refine pure_ (i:=5) (N:=some 190) (v:=?_) (a':=?_) #[true,true,false,true,true,true,false,false,false,false,false,false,false,false,false,false,false,false,false,false,false] rfl rfl (any_of HT_.out (by kernel_rfl)) (fun _ _ _ h=>h) (Or.inl ⟨by rfl,?_⟩) ?_ ?_
                 rotate_left
                 ·intro w'
                  go_simp
                  with_reducible rfl
                 rotate_left
                 ·simp only [Act.put,List.setIfInBounds_toArray,List.set_cons_zero,List.set_cons_succ,i64_w,i32_w]
                  rfl
                 refine pure_ (i:=6) (N:=some 191) (v:=?_) (a':=?_) #[true,true,false,true,true,true,true,false,false,false,false,false,false,false,false,false,false,false,false,false,false] rfl rfl (any_of HT_.out (by kernel_rfl)) (fun _ _ _ h=>h) (Or.inl ⟨by rfl,?_⟩) ?_ ?_
                 rotate_left
                 ·intro w'
                  go_simp
                  with_reducible rfl
                 rotate_left
                 ·simp only [Act.put,List.setIfInBounds_toArray,List.set_cons_zero,List.set_cons_succ,i64_w,i32_w]
                  rfl
                 refine pure_ (i:=7) (N:=some 192) (v:=?_) (a':=?_) #[true,true,false,true,true,true,true,true,false,false,false,false,false,false,false,false,false,false,false,false,false] rfl rfl (any_of HT_.out (by kernel_rfl)) (fun _ _ _ h=>h) (Or.inl ⟨by rfl,?_⟩) ?_ ?_
                 rotate_left
                 ·intro w'
                  go_simp
                  with_reducible rfl
                 rotate_left
                 ·simp only [Act.put,List.setIfInBounds_toArray,List.set_cons_zero,List.set_cons_succ,i64_w,i32_w]
                  rfl
                 refine take_ (i:=2) (N:=some 187) (v:=?_) (a':=?_) #[true,true,true,true,true,true,true,true,false,false,false,false,false,false,false,false,false,false,false,false,false] rfl rfl (take_ofW HT_.out HW_.out (by kernel_rfl)) (fun _ _ _ h=>h) (Or.inl ⟨by rfl,?_⟩) hHeld ?_ ?_
                 rotate_left
                 ·rintro w' ⟨s0,s1⟩
                  go_simp
                  with_reducible rfl
                 rotate_left
                 ·simp only [Act.put,List.setIfInBounds_toArray,List.set_cons_zero,List.set_cons_succ,i64_w,i32_w]
                  rfl
                 refine one_ (i:=8) (N:=some 193) #[true,true,true,true,true,true,true,true,true,false,false,false,false,false,false,false,false,false,false,false,false] rfl rfl (one_of HT_.out (by kernel_rfl)) (by decide) (fun K hK=>?_)
                 refine goes_ Try.func15 (by kernel_rfl) rfl #[.agg #[.slice Ao38 t101.length co38,.slice Ao41 t104.length co41],.int .u32 (Go.bits .or .u32 (Go.bits .andNot .u32 t115 t129) t130)] (by rfl) rfl rfl oF ?_
                 with_reducible refine (q20.calls kj96 _ _ t101 _ _ t104 (Go.bits .or .u32 (Go.bits .andNot .u32 t115 t129) t130) true _ ?side1 ?side2 ?side3 ?side4 A109.out).mono ?_
                 (case side1=>exact cq ((Kd.R_reads' HO_114000.out).2.2))
                 (case side2=>exact (Kd.R_reads' HO_114000.out).2.1)
                 (case side3=>exact cq ((Kd.R_reads' HO_114001.out).2.2))
                 (case side4=>exact (Kd.R_reads' HO_114001.out).2.1)
                 rintro e w117 ⟨rfl,hb⟩
                 refine ⟨_,rfl,?_⟩
                 have n0_:=zk (Kd.R_below (rq HO_114000.out) hb)
                 have n1_:=zk (Kd.R_below (rq HO_114001.out) hb)
                 have n2_:=zk (Kd.R_below (rq HO_115000.out) hb)
                 have n3_:=zk (Kd.R_below (rq HO_115001.out) hb)
                 have n4_:=zk (blk_below (g:=gb113) (o:=.cells #[.slice Ao38 t101.length co38,.slice Ao41 t104.length co41] 24 (0,0)) (hq BK113.out) hb)
                 have n5_:=zk (blk_below (g:=gb114) (o:=.cells #[.slice Ao42 t107.length co42,.slice Ao44 t110.length co44] 25 (0,0)) (hq BK114.out) hb)
                 have n6_:=zk (below_step (bg HB.out GE113 GE114) hb)
                 clear HO_114000
                 clear HO_114001
                 clear HO_115000
                 clear HO_115001
                 clear BK113
                 clear BK114
                 clear HB
                 have HO_114000:=n0_
                 have HO_114001:=n1_
                 have HO_115000:=n2_
                 have HO_115001:=n3_
                 have BK113:=n4_
                 have BK114:=n5_
                 have HB:=n6_
                 clear n0_ n1_ n2_ n3_ n4_ n5_ n6_
                 (try clear hb)
                 (try clear hb2)
                 (try clear hk)
                 (try clear hi)
                 refine hK.out _ _ ⟨(blk_cell BK113.out 0).trans rfl,(blk_cell BK113.out 1).trans rfl⟩ (fun hHeld=>?_)
                 clear hK K
                 refine norm_ (a':=?_) ?_ ?_
                 rotate_left
                 ·show Act.put _ (some 193) _ = _
                  simp only [Act.put,List.setIfInBounds_toArray,List.set_cons_zero,List.set_cons_succ,i64_w,i32_w]
                  rfl
                 refine pure_ (i:=9) (N:=some 194) (v:=?_) (a':=?_) #[true,true,true,true,true,true,true,true,true,true,false,false,false,false,false,false,false,false,false,false,false] rfl rfl (any_of HT_.out (by kernel_rfl)) (fun _ _ _ h=>h) (Or.inl ⟨by rfl,?_⟩) ?_ ?_
                 rotate_left
                 ·intro w'
                  go_simp
                  with_reducible rfl
                 rotate_left
                 ·simp only [Act.put,List.setIfInBounds_toArray,List.set_cons_zero,List.set_cons_succ,i64_w,i32_w]
                  rfl
                 refine pure_ (i:=10) (N:=some 195) (v:=?_) (a':=?_) #[true,true,true,true,true,true,true,true,true,true,true,false,false,false,false,false,false,false,false,false,false] rfl rfl (any_of HT_.out (by kernel_rfl)) (fun _ _ _ h=>h) (Or.inl ⟨by rfl,?_⟩) ?_ ?_
                 rotate_left
                 ·intro w'
                  go_simp
                  with_reducible rfl
                 rotate_left
                 ·simp only [Act.put,List.setIfInBounds_toArray,List.set_cons_zero,List.set_cons_succ,i64_w,i32_w]
                  rfl
                 refine take_ (i:=11) (N:=some 196) (v:=?_) (a':=?_) #[true,true,true,true,true,true,true,true,true,true,true,true,false,false,false,false,false,false,false,false,false] rfl rfl (take_ofW HT_.out HW_.out (by kernel_rfl)) (fun _ _ _ h=>h) (Or.inl ⟨by rfl,?_⟩) hHeld ?_ ?_
                 rotate_left
                 ·rintro w' ⟨s0,s1⟩
                  go_simp
                  with_reducible rfl
                 rotate_left
                 ·simp only [Act.put,List.setIfInBounds_toArray,List.set_cons_zero,List.set_cons_succ,i64_w,i32_w]
                  rfl
                 refine take_ (i:=12) (N:=some 197) (v:=?_) (a':=?_) #[true,true,true,true,true,true,true,true,true,true,true,true,true,false,false,false,false,false,false,false,false] rfl rfl (take_ofW HT_.out HW_.out (by kernel_rfl)) (fun _ _ _ h=>h) (Or.inl ⟨by rfl,?_⟩) hHeld ?_ ?_
                 rotate_left
                 ·rintro w' ⟨s0,s1⟩
                  go_simp
                  with_reducible rfl
                 rotate_left
                 ·simp only [Act.put,List.setIfInBounds_toArray,List.set_cons_zero,List.set_cons_succ,i64_w,i32_w]
                  rfl
                 refine one_ (i:=13) (N:=some 198) #[true,true,true,true,true,true,true,true,true,true,true,true,true,true,false,false,false,false,false,false,false] rfl rfl (one_of HT_.out (by kernel_rfl)) (by decide) (fun K hK=>?_)
                 refine goes_ Try.func29 (by kernel_rfl) rfl #[.agg #[.slice Ao38 t101.length co38,.slice Ao41 t104.length co41]] (by rfl) rfl rfl oF ?_
                 with_reducible refine (q24.calls _ _ t101 _ _ t104 t144 _ ?side1 ?side2 ?side3 ?side4 A111.out).mono ?_
                 (case side1=>exact cq ((Kd.R_reads' HO_114000.out).2.2))
                 (case side2=>exact (Kd.R_reads' HO_114000.out).2.1)
                 (case side3=>exact cq ((Kd.R_reads' HO_114001.out).2.2))
                 (case side4=>exact (Kd.R_reads' HO_114001.out).2.1)
                 rintro e w118 ⟨v145,rfl,ho0,hb⟩
                 refine ⟨_,rfl,?_⟩
                 have n0_:=zk (Kd.R_elder' (rq HO_114000.out) (Kd.R_base ho0) hb)
                 have n1_:=zk (Kd.R_elder' (rq HO_114001.out) (Kd.R_base ho0) hb)
                 have n2_:=zk (Kd.R_elder' (rq HO_115000.out) (Kd.R_base ho0) hb)
                 have n3_:=zk (Kd.R_elder' (rq HO_115001.out) (Kd.R_base ho0) hb)
                 have n4_:=zk (Kd.R_lower (Kd.R_new' (Kd.R_new' (Kd.R_new' (Kd.R_new' ho0 (Kd.R_lt (rq HO_114000.out))) (Kd.R_lt (rq HO_114001.out))) (Kd.R_lt (rq HO_115000.out))) (Kd.R_lt (rq HO_115001.out))) (below_size (bg HB.out GE113 GE114)))
                 have n5_:=zk (blk_below (g:=gb113) (o:=.cells #[.slice Ao38 t101.length co38,.slice Ao41 t104.length co41] 24 (0,0)) (hq BK113.out) hb)
                 have n6_:=zk (blk_below (g:=gb114) (o:=.cells #[.slice Ao42 t107.length co42,.slice Ao44 t110.length co44] 25 (0,0)) (hq BK114.out) hb)
                 have n7_:=zk (below_step (bg HB.out GE113 GE114) hb)
                 clear HO_114000
                 clear HO_114001
                 clear HO_115000
                 clear HO_115001
                 clear BK113
                 clear BK114
                 clear HB
                 have HO_114000:=n0_
                 have HO_114001:=n1_
                 have HO_115000:=n2_
                 have HO_115001:=n3_
                 have HO146:=n4_
                 have BK113:=n5_
                 have BK114:=n6_
                 have HB:=n7_
                 clear n0_ n1_ n2_ n3_ n4_ n5_ n6_ n7_
                 (try clear hb)
                 (try clear hb2)
                 (try clear hk)
                 (try clear hi)
                 (try clear ho0)
                 obtain ⟨Ao119,co119,eo119⟩:=Kd.R_slice HO146.out
                 (first|subst eo119|(injection eo119 with f1_ f2_ f3_;have f4_:=f1_.symm;have f5_:=f3_.symm;clear f1_ f2_ f3_;subst f4_;subst f5_))
                 refine hK.out _ _ ⟨(blk_cell BK113.out 0).trans rfl,(blk_cell BK113.out 1).trans rfl⟩ (fun hHeld=>?_)
                 clear hK K
                 refine norm_ (a':=?_) ?_ ?_
                 rotate_left
                 ·show Act.put _ (some 198) _ = _
                  simp only [Act.put,List.setIfInBounds_toArray,List.set_cons_zero,List.set_cons_succ,i64_w,i32_w]
                  rfl
                 refine one_ (i:=14) (N:=some 199) #[true,true,true,true,true,true,true,true,true,true,true,true,true,true,true,false,false,false,false,false,false] rfl rfl (one_of HT_.out (by kernel_rfl)) (by decide) (fun K hK=>?_)
                 refine goes_ Try.func26 (by kernel_rfl) rfl #[.slice Ao119 t144.length co119] (by rfl) rfl rfl oF ?_
                 with_reducible refine (q13.calls kj96 _ _ t144 t147 _ ?side1 ?side2 A112.out).mono ?_
                 (case side1=>exact cq ((Kd.R_reads' HO146.out).2.2))
                 (case side2=>exact (Kd.R_reads' HO146.out).2.1)
                 rintro e w' ⟨rfl,⟨nd,rfl⟩⟩
                 refine ⟨_,rfl,?_⟩
                 refine hK.out _ _ ⟨(blk_cell BK113.out 0).trans rfl,(blk_cell BK113.out 1).trans rfl⟩ (fun hHeld=>?_)
                 clear hK K
                 refine norm_ (a':=?_) ?_ ?_
                 rotate_left
                 ·show Act.put _ (some 199) _ = _
                  simp only [Act.put,List.setIfInBounds_toArray,List.set_cons_zero,List.set_cons_succ,i64_w,i32_w]
                  rfl
                 refine one_ (i:=15) (N:=some 200) #[true,true,true,true,true,true,true,true,true,true,true,true,true,true,true,true,false,false,false,false,false] rfl rfl (one_of HT_.out (by kernel_rfl)) (by decide) (fun K hK=>?_)
                 refine goes_ Try.func15 (by kernel_rfl) rfl #[.agg #[.slice Ao38 t101.length co38,.slice Ao41 t104.length co41],.int .u32 t147] (by rfl) rfl rfl oF ?_
                 with_reducible refine (q20.calls kj96 _ _ t101 _ _ t104 t147 true _ ?side1 ?side2 ?side3 ?side4 A113.out).mono ?_
                 (case side1=>exact cq ((Kd.R_reads' HO_114000.out).2.2))
                 (case side2=>exact (Kd.R_reads' HO_114000.out).2.1)
                 (case side3=>exact cq ((Kd.R_reads' HO_114001.out).2.2))
                 (case side4=>exact (Kd.R_reads' HO_114001.out).2.1)
                 rintro e w120 ⟨rfl,hb⟩
                 refine ⟨_,rfl,?_⟩
                 have n0_:=zk (Kd.R_below (rq HO_114000.out) hb)
                 have n1_:=zk (Kd.R_below (rq HO_114001.out) hb)
                 have n2_:=zk (Kd.R_below (rq HO_115000.out) hb)
                 have n3_:=zk (Kd.R_below (rq HO_115001.out) hb)
                 have n4_:=zk (Kd.R_below (rq HO146.out) hb)
                 have n5_:=zk (blk_below (g:=gb113) (o:=.cells #[.slice Ao38 t101.length co38,.slice Ao41 t104.length co41] 24 (0,0)) (hq BK113.out) hb)
                 have n6_:=zk (blk_below (g:=gb114) (o:=.cells #[.slice Ao42 t107.length co42,.slice Ao44 t110.length co44] 25 (0,0)) (hq BK114.out) hb)
                 have n7_:=zk (below_step (bg HB.out GE113 GE114) hb)
                 clear HO_114000
                 clear HO_114001
                 clear HO_115000
                 clear HO_115001
                 clear HO146
                 clear BK113
                 clear BK114
                 clear HB
                 have HO_114000:=n0_
                 have HO_114001:=n1_
                 have HO_115000:=n2_
                 have HO_115001:=n3_
                 have HO146:=n4_
                 have BK113:=n5_
                 have BK114:=n6_
                 have HB:=n7_
                 clear n0_ n1_ n2_ n3_ n4_ n5_ n6_ n7_
                 (try clear hb)
                 (try clear hb2)
                 (try clear hk)
                 (try clear hi)
                 refine hK.out _ _ ⟨(blk_cell BK113.out 0).trans rfl,(blk_cell BK113.out 1).trans rfl⟩ (fun hHeld=>?_)
                 clear hK K
                 refine norm_ (a':=?_) ?_ ?_
                 rotate_left
                 ·show Act.put _ (some 200) _ = _
                  simp only [Act.put,List.setIfInBounds_toArray,List.set_cons_zero,List.set_cons_succ,i64_w,i32_w]
                  rfl
                 refine pure_ (i:=16) (N:=some 201) (v:=?_) (a':=?_) #[true,true,true,true,true,true,true,true,true,true,true,true,true,true,true,true,true,false,false,false,false] rfl rfl (any_of HT_.out (by kernel_rfl)) (fun _ _ _ h=>h) (Or.inl ⟨by rfl,?_⟩) ?_ ?_
                 rotate_left
                 ·intro w'
                  go_simp
                  with_reducible rfl
                 rotate_left
                 ·simp only [Act.put,List.setIfInBounds_toArray,List.set_cons_zero,List.set_cons_succ,i64_w,i32_w]
                  rfl
                 refine pure_ (i:=17) (N:=some 202) (v:=?_) (a':=?_) #[true,true,true,true,true,true,true,true,true,true,true,true,true,true,true,true,true,true,false,false,false] rfl rfl (any_of HT_.out (by kernel_rfl)) (fun _ _ _ h=>h) (Or.inl ⟨by rfl,?_⟩) ?_ ?_
                 rotate_left
                 ·intro w'
                  go_simp
                  with_reducible rfl
                 rotate_left
                 ·simp only [Act.put,List.setIfInBounds_toArray,List.set_cons_zero,List.set_cons_succ,i64_w,i32_w]
                  rfl
                 refine one_ (i:=18) (N:=some 203) #[true,true,true,true,true,true,true,true,true,true,true,true,true,true,true,true,true,true,true,false,false] rfl rfl (one_of HT_.out (by kernel_rfl)) (by decide) (fun K hK=>?_)
                 refine goes_ Try.func28 (by kernel_rfl) rfl #[] (by rfl) rfl rfl oF ?_
                 with_reducible refine (q9.calls kj96  t149 _ A115.out).mono ?_
                 rintro e w121 ⟨rfl,hb⟩
                 refine ⟨_,rfl,?_⟩
                 have n0_:=zk (Kd.R_below (rq HO_114000.out) hb)
                 have n1_:=zk (Kd.R_below (rq HO_114001.out) hb)
                 have n2_:=zk (Kd.R_below (rq HO_115000.out) hb)
                 have n3_:=zk (Kd.R_below (rq HO_115001.out) hb)
                 have n4_:=zk (Kd.R_below (rq HO146.out) hb)
                 have n5_:=zk (blk_below (g:=gb113) (o:=.cells #[.slice Ao38 t101.length co38,.slice Ao41 t104.length co41] 24 (0,0)) (hq BK113.out) hb)
                 have n6_:=zk (blk_below (g:=gb114) (o:=.cells #[.slice Ao42 t107.length co42,.slice Ao44 t110.length co44] 25 (0,0)) (hq BK114.out) hb)
                 have n7_:=zk (below_step (bg HB.out GE113 GE114) hb)
                 clear HO_114000
                 clear HO_114001
                 clear HO_115000
                 clear HO_115001
                 clear HO146
                 clear BK113
                 clear BK114
                 clear HB
                 have HO_114000:=n0_
                 have HO_114001:=n1_
                 have HO_115000:=n2_
                 have HO_115001:=n3_
                 have HO146:=n4_
                 have BK113:=n5_
                 have BK114:=n6_
                 have HB:=n7_
                 clear n0_ n1_ n2_ n3_ n4_ n5_ n6_ n7_
                 (try clear hb)
                 (try clear hb2)
                 (try clear hk)
                 (try clear hi)
                 refine hK.out _ _ ⟨(blk_cell BK113.out 0).trans rfl,(blk_cell BK113.out 1).trans rfl⟩ (fun hHeld=>?_)
                 clear hK K
                 refine norm_ (a':=?_) ?_ ?_
                 rotate_left
                 ·show Act.put _ (some 203) _ = _
                  simp only [Act.put,List.setIfInBounds_toArray,List.set_cons_zero,List.set_cons_succ,i64_w,i32_w]
                  rfl
                 refine pure_ (i:=19) (N:=some 204) (v:=?_) (a':=?_) #[true,true,true,true,true,true,true,true,true,true,true,true,true,true,true,true,true,true,true,true,false] rfl rfl (any_of HT_.out (by kernel_rfl)) (fun _ _ _ h=>h) (Or.inl ⟨by rfl,?_⟩) ?_ ?_
                 rotate_left
                 ·intro w'
                  go_simp
                  with_reducible rfl
                 rotate_left
                 ·simp only [Act.put,List.setIfInBounds_toArray,List.set_cons_zero,List.set_cons_succ,i64_w,i32_w]
                  rfl
                 refine pure_ (i:=20) (N:=some 10) (v:=?_) (a':=?_) #[true,true,true,true,true,true,true,true,true,true,true,true,true,true,true,true,true,true,true,true,true] rfl rfl (any_of HT_.out (by kernel_rfl)) (fun _ _ _ h=>h) (Or.inl ⟨by rfl,?_⟩) ?_ ?_
                 rotate_left
                 ·intro w'
                  go_simp
                  with_reducible rfl
                 rotate_left
                 ·simp only [Act.put,List.setIfInBounds_toArray,List.set_cons_zero,List.set_cons_succ,i64_w,i32_w]
                  rfl
                 refine done_ (done_of HT_.out (by kernel_rfl)) ?_
                 try go_wp2
                 go_ret
                 exact ⟨by first|rfl|(simp [errW_none,errW_some] <;> rfl)|(simp only [← hji10,← hji12];first|rfl|(simp [errW_none,errW_some] <;> rfl))|(simp [*,errW_none,errW_some] <;> rfl),bg HB.out GE113 GE114⟩
                ·replace c114:=Bool.eq_false_iff.mpr c114
                 subst c114
                 have H1:(some false) = some r:=by rw [if_neg (show ¬ (false = true) by decide)] at H;exact H
                 clear H
                 have H:=H1
                 clear H1
                 exact absurd (H.trans (congrArg some hrt_.out)) (by simp)
               ·replace c110:=Bool.eq_false_iff.mpr c110
                subst c110
                have H1:(some false) = some r:=by rw [if_neg (show ¬ (false = true) by decide)] at H;exact H
                clear H
                have H:=H1
                clear H1
                exact absurd (H.trans (congrArg some hrt_.out)) (by simp)
              ·replace c108:=Bool.eq_false_iff.mpr c108
               subst c108
               have H1:(some false) = some r:=by rw [if_neg (show ¬ (false = true) by decide)] at H;exact H
               clear H
               have H:=H1
               clear H1
               exact absurd (H.trans (congrArg some hrt_.out)) (by simp)
 ·rw [if_neg c11] at H
  exact absurd H (by simp)
end Go.Proofs.Ytnomeokicfpidaa.Q
