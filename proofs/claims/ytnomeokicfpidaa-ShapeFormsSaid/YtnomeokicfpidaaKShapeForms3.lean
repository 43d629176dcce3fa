-- merged and slimmed by slim.py (a program of this repo)
import Derived.Test.YtnomeokicfpidaaKShapeForms2
import Derived.Lib.BitFns
namespace Go.Proofs.Ytnomeokicfpidaa.FM
open Go.RowKit Go.Proofs.YtnomeokicfpidaaW.PrintWords Go.Proofs.YtnomeokicfpidaaW.PrintLast Go.Proofs.YtnomeokicfpidaaW.PrintMore Go.Proofs.Ytnomeokicfpidaa.Q
attribute [local go_sem] max2_int min2_int max_two min_two max_three min_three max_four min_four
set_option linter.unusedVariables false
set_option linter.unusedSimpArgs false
theorem all_up {L:Array Bool} (hL:L.size = 40) (hr:Region.ready .any ops2 L = []):∀ i,i < 40 → L.getD i false = true:=by
 have hs:ops2.size = 40:=by kernel_rfl
 have hw:((List.range 40).all fun i=>(List.range 40).all fun j=>!Region.waitsFor .any ops2 i j || decide (j < i)) = true:=by kernel_rfl
 have hb:((List.range 40).all fun i=>(ops2[i]?.map fun o=>o.after.all fun e=>decide (e.on < 40)).getD false) = true:=by kernel_rfl
 intro i
 induction i using Nat.strongRecOn with
 | _ i ih =>
  intro hi
  cases hc:L.getD i false with
  | true=>rfl
  | false =>
   exfalso
   have hun:L.getD i true = false:=getD_in (by omega) hc
   obtain ⟨o,ho⟩:∃ o,ops2[i]? = some o:=⟨_,Array.getElem?_eq_getElem (by omega)⟩
   have hmem:i ∈ Region.ready .any ops2 L:=mem_ready.2 ⟨hun,o,ho,fun e he hbd=>by
    have h1:=List.all_eq_true.1 hw i (List.mem_range.2 hi)
    have h2:=List.all_eq_true.1 hb i (List.mem_range.2 hi)
    rw [ho] at h2
    simp only [Option.map_some,Option.getD_some] at h2
    have h3:e.on < 40:=by simpa using Array.all_eq_true_iff_forall_mem.1 h2 e he
    have h4:=List.all_eq_true.1 h1 e.on (List.mem_range.2 h3)
    have h5:Region.waitsFor .any ops2 i e.on = true:=by
     unfold Region.waitsFor
     rw [ho]
     exact Array.any_eq_true'.2 ⟨e,he,by simp [hbd]⟩
    rw [h5] at h4
    have h6:e.on < i:=by simpa using h4
    exact ih e.on h6 h3⟩
   rw [hr] at hmem
   cases hmem
theorem cut40 (vs:List Value) (h:vs.length = 40):∃ v0 v1 v2 v3 v4 v5 v6 v7 v8 v9 v10 v11 v12 v13 v14 v15 v16 v17 v18 v19 v20 v21 v22 v23 v24 v25 v26 v27 v28 v29 v30 v31 v32 v33 v34 v35 v36 v37 v38 v39,vs = [v0,v1,v2,v3,v4,v5,v6,v7,v8,v9,v10,v11,v12,v13,v14,v15,v16,v17,v18,v19,v20,v21,v22,v23,v24,v25,v26,v27,v28,v29,v30,v31,v32,v33,v34,v35,v36,v37,v38,v39] :=
 match vs,h with
 | v0 :: v1 :: v2 :: v3 :: v4 :: v5 :: v6 :: v7 :: v8 :: v9 :: v10 :: v11 :: v12 :: v13 :: v14 :: v15 :: v16 :: v17 :: v18 :: v19 :: v20 :: v21 :: v22 :: v23 :: v24 :: v25 :: v26 :: v27 :: v28 :: v29 :: v30 :: v31 :: v32 :: v33 :: v34 :: v35 :: v36 :: v37 :: v38 :: v39 :: [],_=>⟨v0,v1,v2,v3,v4,v5,v6,v7,v8,v9,v10,v11,v12,v13,v14,v15,v16,v17,v18,v19,v20,v21,v22,v23,v24,v25,v26,v27,v28,v29,v30,v31,v32,v33,v34,v35,v36,v37,v38,v39,rfl⟩
theorem valid_calls {k:Nat} {K P:List Int} {v u:Value} {r:Bool} {w:World} (h1:Row w v K) (h2:Row w u P) (h:q9.f k K P = some r) :
  Calls Try.prog 20 #[.agg #[v,u]] w fun e w'=>e = .returned (.bool r) ∧ Below w.heap.size w w':=by
 obtain ⟨A,rfl,c1⟩:=h1
 obtain ⟨A',rfl,c2⟩:=h2
 exact q9.calls k _ _ K _ _ P r w c1 (Nat.le_refl _) c2 (Nat.le_refl _) h
def KK (n:Nat):List Int:=(List.range 24).map fun i=>if i < n then 1 else 0
def PP (n:Nat):List Int:=(List.range 24).map fun i=>if i < n then (i:Int) - 1 else 0
theorem KK_set (n:Nat):(KK n).set n 1 = KK (n + 1):=by
 apply List.ext_getElem
 ·simp [KK]
 ·intro i h1 h2
  simp only [KK,List.getElem_set,List.getElem_map,List.getElem_range]
  by_cases e:n = i
  ·subst e;simp
  ·rw [if_neg e]
   by_cases l:i < n
   ·rw [if_pos l,if_pos (by omega)]
   ·rw [if_neg l,if_neg (by omega)]
theorem PP_set (n:Nat):(PP n).set n ((n:Int) - 1) = PP (n + 1):=by
 apply List.ext_getElem
 ·simp [PP]
 ·intro i h1 h2
  simp only [PP,List.getElem_set,List.getElem_map,List.getElem_range]
  by_cases e:n = i
  ·subst e;simp
  ·rw [if_neg e]
   by_cases l:i < n
   ·rw [if_pos l,if_pos (by omega)]
   ·rw [if_neg l,if_neg (by omega)]
theorem nums_set (xs:List Int) (i:Nat) (x:Int):(nums .i64 xs).toArray.setIfInBounds i (.int .i64 x) = (nums .i64 (xs.set i x)).toArray:=by
 simp [nums,List.map_set]
theorem make24 (W:World):(Instr.makeSlice 22 (.int .i64 24) (.int .i64 24)).run Try.prog W = .ok (.slice (some ⟨W.heap.size,0,none⟩) 24 24) (W.alloc (.cells (nums .i64 (KK 0)).toArray 3)):=by
 have h:=print_make 22 3 .i64 8 Try.underlying22 (by kernel_rfl) (by omega) 24 (by omega) W
 have e:List.replicate 24 0 = KK 0:=by decide
 rw [made_nums,e] at h
 exact h
theorem new2 (w:World) (o o2:Obj):((w.alloc o).alloc o2).heap[w.heap.size + 1]? = some o2:=by
 have:=blk_new (w.alloc o) o2
 simpa using this
structure Two (w0 w:World) (a b:Nat) (n:Nat):Prop where
 ne:a ≠ b
 ka:w0.heap.size ≤ a
 kb:w0.heap.size ≤ b
 ha:w.heap[a]? = some (.cells (nums .i64 (KK n)).toArray 3 (0,0))
 hb:w.heap[b]? = some (.cells (nums .i64 (PP n)).toArray 3 (0,0))
 below:Below w0.heap.size w0 w
theorem Two.next {w0 w:World} {a b n:Nat} (h:Two w0 w a b n):Two w0 ((w.setCell ⟨a,n,none⟩ (.int .i64 1)).setCell ⟨b,n,none⟩ (.int .i64 ((n:Int) - 1))) a b (n + 1):=by
 refine ⟨h.ne,h.ka,h.kb,?_,?_,(h.below.setCell h.ka _).setCell h.kb _⟩
 ·refine blk_far ?_ h.ne _
  have:=blk_set h.ha n (.int .i64 1)
  rwa [nums_set,KK_set] at this
 ·have:=blk_set (blk_far (p:=⟨a,n,none⟩) h.hb h.ne.symm (.int .i64 1)) n (.int .i64 ((n:Int) - 1))
  rwa [nums_set,PP_set] at this
theorem two_start1 {w wr:World} (h:Below w.heap.size w wr):Two w (((wr.alloc (.cells (nums .i64 (KK 0)).toArray 3)).alloc (.cells (nums .i64 (KK 0)).toArray 3)).drew) wr.heap.size (wr.heap.size + 1) 0:=by
 have e:PP 0 = KK 0:=by decide
 have h1:=h.alloc h.size (.cells (nums .i64 (KK 0)).toArray 3)
 have h2:=h1.alloc h1.size (.cells (nums .i64 (KK 0)).toArray 3)
 refine ⟨by omega,h.size,by have:=h.size;omega,blk_drew (blk_alloc (blk_new _ _) _),?_,⟨h2.os,h2.tape,h2.output,h2.size,h2.block⟩⟩
 rw [e]
 have:=blk_new (wr.alloc (.cells (nums .i64 (KK 0)).toArray 3)) (.cells (nums .i64 (KK 0)).toArray 3)
 exact blk_drew (by simpa using this)
theorem Two.flip {w w' : World} {a b:Nat} (h:Two w w' a b 0):Two w w' b a 0:=by
 have e:PP 0 = KK 0:=by decide
 exact ⟨h.ne.symm,h.kb,h.ka,by rw [← e];exact h.hb,by rw [e];exact h.ha,h.below⟩
theorem two_start2 {w wr:World} (h:Below w.heap.size w wr):Two w (((wr.alloc (.cells (nums .i64 (KK 0)).toArray 3)).alloc (.cells (nums .i64 (KK 0)).toArray 3)).drew) (wr.heap.size + 1) wr.heap.size 0:=(two_start1 h).flip
theorem more {w w1 w2:World} (h2:Below w1.heap.size w1 w2) (h:Below w.heap.size w w1):Below w.heap.size w w2:=below_then h h.size h2
theorem more2 {w w1 w2:World} {o o' : Obj} (h2:Below ((w1.alloc o).alloc o').heap.size ((w1.alloc o).alloc o') w2) (h:Below w.heap.size w w1):Below w.heap.size w w2:=more h2 ((h.alloc h.size o).alloc (h.alloc h.size o).size o')
set_option maxHeartbeats 16000000 in
set_option maxRecDepth 100000 in
theorem forms_calls (n m:Int) (w:World) (h:q5.f n 9 = some m) (hm:0 ≤ m ∧ m ≤ 9)
  (hV:∀ (j:Nat) p,(none12 (2 + m))[j]? = some p → ∃ k,q9.f k p.1 p.2 = some false)
  (hV1:∃ k,q9.f k (KK 24) (PP 24) = some true)
  (hV2:∃ k,q9.f k [1,1,3,4] [-1,0,0,0] = some true) (hV3:∃ k,q9.f k [2,1,1] [-1,0,0] = some true) (hV4:∃ k,q9.f k [2] [-1] = some true)
  (hWk:∃ k,q4.f k = some true) :
  Calls Try.prog 5 #[.int .i64 n] w (fun e w'=>e = .returned (.bool true) ∧ Below w.heap.size w w'):=by
 have hu24:=Try.underlying24
 have HV:=Aside0.mk hV
 have HV1:=Aside0.mk hV1
 have HV2:=Aside0.mk hV2
 have HV3:=Aside0.mk hV3
 have HV4:=Aside0.mk hV4
 have HWK:=Aside0.mk hWk
 clear hV hV1 hV2 hV3 hV4 hWk
 go_enter Try.func5,Try.ntmps5
 go_wp2_with (go_at_call 19;(with_reducible refine (q5.calls _ _ _ _ h).mono ?_);rintro e w4 ⟨rfl,hb4⟩)
 have HB4:=Aside0.mk hb4.below
 refine wp_region_any (by kernel_rfl) ?_
 refine wpAny_inv (ops:=ops2) (Inv (2 + m) w4.drew [.int .i64 (2 + m),undef,.bool false,undef,undef,undef,undef,undef,.int .i64 n,.int .i64 m,.int .i64 (2 + m)] (List.replicate 47 undef)) (fun L a w i hI hr=>step hI rfl rfl (by omega) (by omega) i hr) ?_ 40 _ _ _ (by decide) ⟨by simp,⟨List.replicate 40 undef,by simp,rfl,fun i s _ hL=>by rw [getD_replicate_false] at hL;cases hL⟩,Below.refl _ _⟩
 intro L a w5 hI hr
 have hup:=all_up hI.sz hr
 have hA:All w5 _ (none12 (2 + m)):=hI.slot rfl (i:=37) rfl (hup 37 (by omega)) rfl
 have h12:_ = Value.int .i64 12:=hI.slot rfl (i:=38) rfl (hup 38 (by omega)) rfl
 have h0:_ = Value.int .i64 0:=hI.slot rfl (i:=39) rfl (hup 39 (by omega)) rfl
 have hb5:=hI.below
 obtain ⟨_,⟨vs,hl,rfl,hx1⟩,_⟩:=hI
 clear hx1
 obtain ⟨v0,v1,v2,v3,v4,v5,v6,v7,v8,v9,v10,v11,v12,v13,v14,v15,v16,v17,v18,v19,v20,v21,v22,v23,v24,v25,v26,v27,v28,v29,v30,v31,v32,v33,v34,v35,v36,v37,v38,v39,rfl⟩:=cut40 vs hl
 have h12:v38 = .int .i64 12:=h12
 have h0:v39 = .int .i64 0:=h0
 have hA:All w5 v37 (none12 (2 + m)):=hA
 obtain ⟨g,cs,e37,hg,hcs⟩:=id hA
 clear hA
 have e37:v37 = .slice (some ⟨g,0,none⟩) 12 12:=e37
 subst e37 h12 h0
 clear hr hup hl hb4
 have HB5:=Aside0.mk hb5
 have HG:=Aside0.mk hg
 have HCS:=Aside0.mk hcs
 clear hb5 hg hcs
 simp only [List.cons_append,List.nil_append,List.replicate_succ,List.replicate_zero]
 go_wp2
 go_loopg [4,50] 12 (fun kq x4 x50 w'=>∃ (xi:Nat),x50 = .int .i64 xi ∧ Aside0 (xi + kq = 12) ∧ Aside0 (Below w5.heap.size w5 w'))
 case atStart=>exact ⟨0,rfl,⟨rfl⟩,⟨Below.refl _ _⟩⟩
 case round =>
  obtain ⟨xi,rfl,HX,HW⟩:=hrel
  cases gk with
  | zero =>
   have e12:xi = 12:=by have:=HX.out;omega
   subst e12
   have hbw:Below w.heap.size w wr:=below_then (below_then HB4.out HB4.out.size (below_then (below_drew (Below.refl _ _)) (Nat.le_refl _) HB5.out)) (below_then HB4.out HB4.out.size (below_then (below_drew (Below.refl _ _)) (Nat.le_refl _) HB5.out)).size HW.out
   have HBW:=Aside0.mk hbw
   clear hbw HG HCS HX HW HV
   have hmk:=make24
   go_upto_region 8 with (fail)
   go_cut [5,6] (fun x5 x6 wc=>∃ (a b:Nat),x5 = .slice (some ⟨a,0,none⟩) 24 24 ∧ x6 = .slice (some ⟨b,0,none⟩) 24 24 ∧ Aside0 (Two w wc a b 0))
   case first =>
    go_region
    all_goals go_wp2
    all_goals go_meet
    all_goals exact ⟨_,_,rfl,rfl,⟨by first|exact two_start1 HBW.out|exact two_start2 HBW.out⟩⟩
   case rest =>
    obtain ⟨a,b,rfl,rfl,HT⟩:=hcut
    clear hmk
    go_wp2
    go_loopg [7,61] 24 (fun kq y7 y61 w'=>∃ (xi:Nat),y61 = .int .i64 xi ∧ Aside0 (xi + kq = 24) ∧ Aside0 (Two w w' a b xi))
    case atStart=>exact ⟨0,rfl,⟨rfl⟩,HT⟩
    case round =>
     obtain ⟨xi,rfl,HX,HW⟩:=hrel
     cases gk with
     | zero =>
      have e24:xi = 24:=by have:=HX.out;omega
      subst e24
      have hT:=HW.out
      have HR1:=zk (show Row wr (.slice (some ⟨a,0,none⟩) 24 24) (KK 24) from Row.blk hT.ha (by decide))
      have HR2:=zk (show Row wr (.slice (some ⟨b,0,none⟩) 24 24) (PP 24) from Row.blk hT.hb (by decide))
      have HBT:=Aside0.mk hT.below
      obtain ⟨k1,hk1⟩:=HV1.out
      obtain ⟨k2,hk2⟩:=HV2.out
      obtain ⟨k3,hk3⟩:=HV3.out
      obtain ⟨k4,hk4⟩:=HV4.out
      obtain ⟨k5,hk5⟩:=HWK.out
      have HK1:=Aside0.mk hk1
      have HK2:=Aside0.mk hk2
      have HK3:=Aside0.mk hk3
      have HK4:=Aside0.mk hk4
      have HK5:=Aside0.mk hk5
      clear hT hk1 hk2 hk3 hk4 hk5 HV1 HV2 HV3 HV4 HWK HX HW
      go_wp2_with (first
       | (go_at_call 17;(with_reducible refine (q4.calls k5 _ _ HK5.out).mono ?_);rintro e y5 ⟨rfl,hb⟩;have HY5:=Aside0.mk hb;clear hb)
       | (go_at_call 20;(with_reducible refine (valid_calls ?s1 ?s2 HK1.out).mono ?_);(case s1=>exact HR1.out);(case s2=>exact HR2.out);rintro e y1 ⟨rfl,hb⟩;have HY1:=Aside0.mk hb;clear hb)
       | (go_at_call 20;(with_reducible refine (valid_calls ?s1 ?s2 HK2.out).mono ?_);(case s1=>exact Row.blk (l:=[1,1,3,4]) (blk_alloc (blk_new y1 _) _) (by decide));(case s2=>exact Row.blk (l:=[-1,0,0,0]) (new2 y1 _ _) (by decide));rintro e y2 ⟨rfl,hb⟩;have HY2:=Aside0.mk hb;clear hb)
       | (go_at_call 20;(with_reducible refine (valid_calls ?s1 ?s2 HK3.out).mono ?_);(case s1=>exact Row.blk (l:=[2,1,1]) (blk_alloc (blk_new y2 _) _) (by decide));(case s2=>exact Row.blk (l:=[-1,0,0]) (new2 y2 _ _) (by decide));rintro e y3 ⟨rfl,hb⟩;have HY3:=Aside0.mk hb;clear hb)
       | (go_at_call 20;(with_reducible refine (valid_calls ?s1 ?s2 HK4.out).mono ?_);(case s1=>exact Row.blk (l:=[2]) (blk_alloc (blk_new y3 _) _) (by decide));(case s2=>exact Row.blk (l:=[-1]) (new2 y3 _ _) (by decide));rintro e y4 ⟨rfl,hb⟩;have HY4:=Aside0.mk hb;clear hb))
      go_ret
      exact ⟨rfl,more HY5.out (more2 HY4.out (more2 HY3.out (more2 HY2.out (more HY1.out HBT.out))))⟩
     | succ k1 =>
      have hx:xi < 24:=by have:=HX.out;omega
      have i0:(0:Int) ≤ (xi:Int):=by omega
      have i1:(xi:Int) < 24:=by omega
      have i2:decide ((xi:Int) < 24) = true:=decide_eq_true i1
      have i3:decide (xi < 24) = true:=decide_eq_true hx
      have hT:=HW.out
      have hab:=hT.ne
      have hba:=hT.ne.symm
      obtain ⟨v1,c1⟩:∃ v,wr.cell? ⟨a,xi,none⟩ = some v:=⟨_,(blk_cell hT.ha xi).trans (Array.getElem?_eq_getElem (by simp [nums,KK];omega))⟩
      obtain ⟨v2,c2⟩:∃ v,wr.cell? ⟨b,xi,none⟩ = some v:=⟨_,(blk_cell hT.hb xi).trans (Array.getElem?_eq_getElem (by simp [nums,PP];omega))⟩
      have f1:=blk_frozen hT.ha xi
      have f2:=blk_frozen hT.hb xi
      have HN:=Aside0.mk hT.next
      clear hT
      go_wp2
      go_roundg k1
      case measure=>omega
      case rel=>exact ⟨xi + 1,(by first|rfl|(simp;done)),⟨by have:=HX.out;omega⟩,HN⟩
  | succ k1 =>
   have hx:xi < 12:=by have:=HX.out;omega
   obtain ⟨p,hp⟩:∃ p,(none12 (2 + m))[xi]? = some p:=⟨_,List.getElem?_eq_getElem (by exact hx)⟩
   obtain ⟨kq,hkq⟩:=HV.out xi p hp
   obtain ⟨k,q,h1,h2,⟨A,rfl,c1⟩,⟨A',rfl,c2⟩⟩:=HCS.out xi p hp
   have HP:=zk (And.intro (Kd.C_below c1 HW.out) (Kd.C_below c2 HW.out))
   have HKQ:=Aside0.mk hkq
   have hg':=blk_below HG.out HW.out
   have hc0:wr.cell? ⟨g,xi * 2,none⟩ = some (.slice A p.1.length p.1.length):=(blk_cell hg' _).trans (by rw [Nat.mul_comm];exact h1)
   have hc1:wr.cell? ⟨g,xi * 2 + 1,none⟩ = some (.slice A' p.2.length p.2.length):=(blk_cell hg' _).trans (by rw [Nat.mul_comm];exact h2)
   have i0:(0:Int) ≤ (xi:Int):=by omega
   have i1:(xi:Int) < 12:=by omega
   have i2:decide ((xi:Int) < 12) = true:=decide_eq_true i1
   have i3:decide (xi < 12) = true:=decide_eq_true hx
   clear hp hkq h1 h2 c1 c2 hg'
   go_wp2_with (go_at_call 20;(with_reducible refine (q9.calls kq _ _ _ _ _ _ _ _ ?s1 ?s2 ?s3 ?s4 HKQ.out).mono ?_);(case s1=>exact Kd.C_alloc HP.out.1 _);(case s2=>exact Nat.le_refl _);(case s3=>exact Kd.C_alloc HP.out.2 _);(case s4=>exact Nat.le_refl _);rintro e w6 ⟨rfl,hb6⟩;have HB6:=Aside0.mk hb6;clear hb6)
   go_roundg k1
   case measure=>omega
   case rel=>exact ⟨xi + 1,(by first|rfl|(simp;done)),⟨by have:=HX.out;omega⟩,⟨below_then (HW.out.alloc HW.out.size _) (HW.out.alloc HW.out.size _).size HB6.out⟩⟩
end Go.Proofs.Ytnomeokicfpidaa.FM
namespace Go.Proofs.Ytnomeokicfpidaa.M
open Go.RowKit Go.Proofs.YtnomeokicfpidaaW.PrintWords Go.Proofs.YtnomeokicfpidaaW.PrintLast Go.Proofs.YtnomeokicfpidaaW.PrintMore
set_option linter.unusedVariables false
theorem w64 {x:Int} (h0:-9223372036854775808 ≤ x) (h1:x ≤ 9223372036854775807):wrap64 x = x:=by unfold wrap64;omega
theorem w1 (i:Nat) (h:i < 4611686018427387904):wrap64 ((i:Int) + 1) = ((i + 1:Nat):Int):=by rw [w64 (by omega) (by omega)];omega
theorem rd_nat (xs:List Int) (i:Nat):rd xs (i:Int) = xs.getD i 0:=by simp [rd]
theorem Ev.st {α:Type} {g f:Nat → Option α} {r:α} (k:Ev f r) (h:∀ k,g (k + 1) = f k):Ev g r:=Ev.step h k
theorem Ev.ret {α:Type} {g:Nat → Option α} {r:α} (h:∀ k,g (k + 1) = some r):Ev g r:=Ev.step (f:=fun _=>some r) h (Ev.now r)
theorem Ev.bd {α β:Type} {g:Nat → Option α} {f:Nat → α → Option β} {a:α} {r:β} (h:Ev g a) (k:Ev (fun n=>f n a) r):Ev (fun n=>(g n).bind (fun x=>f n x)) r:=Ev.bind h k
theorem Ev.neg {α:Type} {c:Prop} [Decidable c] {f g:Nat → Option α} {r:α} (h:¬ c) (k:Ev g r):Ev (fun n=>if c then f n else g n) r:=by simpa [h] using k
theorem Ev.ite {α:Type} {c:Prop} [Decidable c] {f g:Nat → Option α} {r s:α} (k:c → Ev f r) (l:¬ c → Ev g s):Ev (fun n=>if c then f n else g n) (if c then r else s):=by
 by_cases h:c
 ·simpa [h] using k h
 ·simpa [h] using l h
theorem Ev.iff {α:Type} {c:Prop} [Decidable c] {f g:Nat → Option α} {r:α} (k:c → Ev f r) (l:¬ c → Ev g r):Ev (fun n=>if c then f n else g n) r:=by
 by_cases h:c
 ·simpa [h] using k h
 ·simpa [h] using l h
theorem Ev.val {α:Type} {g:Nat → Option α} {r s:α} (h:Ev g r) (e:r = s):Ev g s:=e ▸ h
end Go.Proofs.Ytnomeokicfpidaa.M
namespace Go.Proofs.Ytnomeokicfpidaa.Q
open Go.RowKit Go.Proofs.YtnomeokicfpidaaW.PrintWords Go.Proofs.YtnomeokicfpidaaW.PrintLast Go.Proofs.YtnomeokicfpidaaW.PrintMore
attribute [local go_sem] max2_int min2_int max_two min_two max_three min_three max_four min_four
set_option linter.unusedVariables false
set_option linter.unusedSimpArgs false
def q2.l0:Nat → Int → List Int → Int → Int → List Int → List Int → Option (List Int)
 | 0,_,_,_,_,_,_=>none
 | k + 1,x1,x5,x9,x10,x102000,x102001=>if x10 < x9 then (if 0 ≤ x10 then (if x10 < (x102001.length:Int) then (if (rd x102001 x10) = x1 then (if x5.length < 17592186044416 then (q2.l0 k x1 (x5 ++ [x10]) x9 (wrap64 (x10 + 1)) x102000 x102001) else (none)) else (q2.l0 k x1 x5 x9 (wrap64 (x10 + 1)) x102000 x102001)) else (none)) else (none)) else (some x5)
def q2.f (k:Nat) (l0_0:List Int) (l0_1:List Int) (a1:Int):Option (List Int):=q2.l0 k a1 ([]:List Int) (l0_1.length:Int) 0 l0_0 l0_1
def q0.l0:Nat → List Int → Int → Int → List Int → List Int → Option (Int)
 | 0,_,_,_,_,_=>none
 | k + 1,x9,x10,x11,x102000,x102001=>if x11 < x10 then (if 0 ≤ x11 then (if x11 < (x9.length:Int) then (if 0 ≤ (rd x9 x11) then (if (rd x9 x11) < (x102000.length:Int) then (if (rd x102000 (rd x9 x11)) ≤ 2 then (some (rd x9 x11)) else (q0.l0 k x9 x10 (wrap64 (x11 + 1)) x102000 x102001)) else (none)) else (none)) else (none)) else (none)) else (some (-1))
def q0.f (k:Nat) (l0_0:List Int) (l0_1:List Int) (a1:Int):Option (Int):=(q2.f k l0_0 l0_1 a1).bind fun t102=>(q0.l0 k t102 (t102.length:Int) 0 l0_0 l0_1)
end Go.Proofs.Ytnomeokicfpidaa.Q
namespace Go.Proofs.Ytnomeokicfpidaa.M
open Go.RowKit Go.Proofs.YtnomeokicfpidaaW.PrintWords Go.Proofs.YtnomeokicfpidaaW.PrintLast Go.Proofs.YtnomeokicfpidaaW.PrintMore Go.Proofs.Ytnomeokicfpidaa.Q
set_option linter.unusedVariables false
def solidB (k:Int):Bool:=k == 1 || k == 2
def kidsFrom (P:List Int) (at_:Int) (i d:Nat):List Int:=((List.range' i d).filter (fun j=>decide (P.getD j 0 = at_))).map (fun j:Nat=>(j:Int))
def kids (P:List Int) (at_:Int):List Int:=kidsFrom P at_ 0 P.length
theorem kidsFrom_succ (P:List Int) (a:Int) (i d:Nat):kidsFrom P a i (d + 1) = if P.getD i 0 = a then (i:Int) :: kidsFrom P a (i + 1) d else kidsFrom P a (i + 1) d:=by
 unfold kidsFrom
 rw [List.range'_succ,List.filter_cons]
 by_cases h:P.getD i 0 = a
 ·rw [if_pos h,if_pos (decide_eq_true h)];rfl
 ·rw [if_neg h,if_neg (by rw [decide_eq_false h];simp)]
theorem kids_len (P:List Int) (a:Int):(kids P a).length ≤ P.length:=by
 unfold kids kidsFrom
 rw [List.length_map]
 exact Nat.le_trans (List.length_filter_le _ _) (by simp)
theorem mem_kids {P:List Int} {a x:Int}:x ∈ kids P a ↔ ∃ j:Nat,x = j ∧ j < P.length ∧ P.getD j 0 = a:=by
 unfold kids kidsFrom
 constructor
 ·intro h
  obtain ⟨j,hj,rfl⟩:=List.mem_map.1 h
  obtain ⟨h1,h2⟩:=List.mem_filter.1 hj
  rw [List.mem_range'_1] at h1
  exact ⟨j,rfl,by omega,by simpa using h2⟩
 ·rintro ⟨j,rfl,h1,h2⟩
  exact List.mem_map.2 ⟨j,List.mem_filter.2 ⟨List.mem_range'_1.2 ⟨by omega,by omega⟩,by simpa using h2⟩,rfl⟩
theorem solid_f (a:Int):q8.f a = some (solidB a):=by
 unfold q8.f solidB
 by_cases h:a = 1
 ·simp [h]
 ·rw [if_neg h];simp [h]
theorem Kids_l0 (a:Int) (P:List Int) (hP:P.length < 1099511627776):∀ (d i:Nat) (acc:List Int),i + d = P.length → acc.length ≤ i →
  Ev (fun k=>q10.l0 k a acc P (P.length:Int) (i:Int)) (acc ++ kidsFrom P a i d):=by
 intro d
 induction d with
 | zero =>
  intro i acc hi ha
  refine Ev.ret (fun k=>?_)
  simp only [q10.l0]
  rw [if_neg (by omega)]
  simp [kidsFrom]
 | succ d ih =>
  intro i acc hi ha
  rw [kidsFrom_succ]
  by_cases hp:P.getD i 0 = a
  ·rw [if_pos hp]
   refine Ev.st (Ev.val (ih (i + 1) (acc ++ [(i:Int)]) (by omega) (by simp;omega)) (by simp)) (fun k=>?_)
   simp only [q10.l0]
   rw [if_pos (by omega),if_pos (by omega),if_pos (by omega),rd_nat,if_pos hp,if_pos (by omega),w1 i (by omega)]
  ·rw [if_neg hp]
   refine Ev.st (ih (i + 1) acc (by omega) (by omega)) (fun k=>?_)
   simp only [q10.l0]
   rw [if_pos (by omega),if_pos (by omega),if_pos (by omega),rd_nat,if_neg hp,w1 i (by omega)]
theorem Kids_f (K P:List Int) (a:Int) (hP:P.length < 1099511627776):Ev (fun k=>q10.f k K P a) (kids P a):=by
 have h:=Kids_l0 a P hP P.length 0 [] (by omega) (by simp)
 simpa [q10.f,kids] using h
def firstSolid (K:List Int):List Int → Int
 | []=>-1
 | x :: xs=>if solidB (rd K x) = true then x else firstSolid K xs
def initial (K P:List Int) (a:Int):Int:=firstSolid K (kids P a)
theorem Initial_l0 (K P:List Int) (L:List Int) (hL:∀ x ∈ L,0 ≤ x ∧ x < (K.length:Int)) (hl:L.length < 1099511627776):∀ (d i:Nat),i + d = L.length →
  Ev (fun k=>q6.l0 k L (L.length:Int) (i:Int) K P) (firstSolid K (L.drop i)):=by
 intro d
 induction d with
 | zero =>
  intro i hi
  refine Ev.ret (fun k=>?_)
  simp only [q6.l0]
  rw [if_neg (by omega),List.drop_of_length_le (by omega)];rfl
 | succ d ih =>
  intro i hi
  have hd:L.drop i = L.getD i 0 :: L.drop (i + 1):=by
   rw [List.drop_eq_getElem_cons (by omega),List.getD_eq_getElem?_getD,List.getElem?_eq_getElem (by omega)];rfl
  have hm:L.getD i 0 ∈ L:=by rw [List.getD_eq_getElem?_getD,List.getElem?_eq_getElem (by omega)];exact List.getElem_mem _
  have hb:=hL _ hm
  rw [hd,firstSolid]
  by_cases hs:solidB (rd K (L.getD i 0)) = true
  ·refine Ev.ret (fun k=>?_)
   simp only [q6.l0]
   rw [if_pos (by omega),if_pos (by omega),if_pos (by omega),rd_nat,if_pos hb.1,if_pos hb.2,solid_f,Option.bind_some,if_pos hs,if_pos hs]
  ·rw [if_neg hs]
   refine Ev.st (ih (i + 1) (by omega)) (fun k=>?_)
   simp only [q6.l0]
   rw [if_pos (by omega),if_pos (by omega),if_pos (by omega),rd_nat,if_pos hb.1,if_pos hb.2,solid_f,Option.bind_some,if_neg hs,w1 i (by omega)]
theorem kids_in {K P:List Int} (hn:P.length = K.length) (a:Int):∀ x ∈ kids P a,0 ≤ x ∧ x < (K.length:Int):=by
 intro x hx
 obtain ⟨j,rfl,h1,_⟩:=mem_kids.1 hx
 omega
theorem Initial_f (K P:List Int) (a:Int) (hn:P.length = K.length) (hP:P.length < 1099511627776):Ev (fun k=>q6.f k K P a) (initial K P a):=by
 unfold q6.f
 refine Ev.bd (Kids_f K P a hP) ?_
 have h:=Initial_l0 K P (kids P a) (kids_in hn a) (Nat.lt_of_le_of_lt (kids_len P a) hP) (kids P a).length 0 (by omega)
 simpa [initial] using h
def okS (K P:List Int) (i:Nat):Bool :=
 decide (1 ≤ K.getD i 0) && (decide (K.getD i 0 ≤ 4) && (decide (-1 ≤ P.getD i 0) && (decide (P.getD i 0 < i) &&
  (if P.getD i 0 = -1 then solidB (K.getD i 0) else solidB (rd K (P.getD i 0)) && (solidB (K.getD i 0) || rd K (P.getD i 0) == 1)))))
def compB (K P:List Int) (a:Int):Bool:=(a != -1 && (kids P a).isEmpty) || decide (0 ≤ initial K P a)
def compsB (K P:List Int):Bool:=compB K P (-1) && (List.range' 0 K.length).all (fun j=>compB K P (j:Int))
def validB (K P:List Int):Bool:=decide (1 ≤ K.length ∧ K.length ≤ 24 ∧ P.length = K.length) && ((List.range' 0 K.length).all (okS K P) && compsB K P)
theorem Valid_l1 (K P:List Int) (hn:P.length = K.length) (h24:K.length ≤ 24):∀ (d i:Nat),i + d = K.length →
  Ev (fun k=>q9.l1 k (K.length:Int) (i:Int) K P) ((List.range' i d).all (fun j=>compB K P (j:Int))):=by
 intro d
 induction d with
 | zero =>
  intro i hi
  refine Ev.ret (fun k=>?_)
  simp only [q9.l1]
  rw [if_neg (by omega)];simp
 | succ d ih =>
  intro i hi
  rw [List.range'_succ,List.all_cons]
  refine Ev.st (f:=fun k=>(q10.f k K P (i:Int)).bind fun t=>if (t.length:Int) > 0 then (q6.f k K P (i:Int)).bind fun t2=>(if t2 < 0 then some false else q9.l1 k (K.length:Int) (wrap64 ((i:Int) + 1)) K P) else q9.l1 k (K.length:Int) (wrap64 ((i:Int) + 1)) K P) ?_ (fun k=>?_)
  ·refine Ev.bd (Kids_f K P _ (by omega)) ?_
   rw [w1 i (by omega)]
   have hc:compB K P (i:Int) = ((kids P (i:Int)).isEmpty || decide (0 ≤ initial K P (i:Int))):=by
    unfold compB;rw [show ((i:Int) != -1) = true from bne_iff_ne.mpr (by omega)];simp
   rw [hc]
   refine Ev.iff (fun h=>?_) (fun h=>?_)
   ·have he:(kids P (i:Int)).isEmpty = false:=by cases hk:kids P (i:Int) <;> simp_all
    rw [he]
    refine Ev.bd (Initial_f K P _ hn (by omega)) ?_
    refine Ev.iff (fun h=>?_) (fun h=>?_)
    ·rw [decide_eq_false (by omega)];exact Ev.now _
    ·rw [decide_eq_true (by omega)];simpa using ih (i + 1) (by omega)
   ·have he:(kids P (i:Int)).isEmpty = true:=by cases hk:kids P (i:Int) <;> simp_all
    rw [he];simpa using ih (i + 1) (by omega)
  ·simp only [q9.l1]
   rw [if_pos (by omega),if_neg (by omega)]
theorem Valid_l1m (K P:List Int) (hn:P.length = K.length) (h24:K.length ≤ 24) :
  Ev (fun k=>q9.l1 k (K.length:Int) (-1) K P) (compsB K P):=by
 refine Ev.st (f:=fun k=>(q6.f k K P (-1)).bind fun t2=>(if t2 < 0 then some false else q9.l1 k (K.length:Int) (wrap64 ((-1) + 1)) K P)) ?_ (fun k=>?_)
 ·refine Ev.bd (Initial_f K P _ hn (by omega)) ?_
  have hc:compB K P (-1) = decide (0 ≤ initial K P (-1)):=by unfold compB;simp
  unfold compsB;rw [hc]
  refine Ev.iff (fun h=>?_) (fun h=>?_)
  ·rw [decide_eq_false (by omega)];exact Ev.now _
  ·rw [decide_eq_true (by omega),show wrap64 ((-1) + 1) = ((0:Nat):Int) by rw [w64 (by omega) (by omega)];rfl];simpa using Valid_l1 K P hn h24 K.length 0 (by omega)
 ·simp only [q9.l1,if_true]
  rw [if_pos (by omega)]
theorem Valid_l0 (K P:List Int) (hn:P.length = K.length) (h24:K.length ≤ 24):∀ (d i:Nat),i + d = K.length →
  Ev (fun k=>q9.l0 k (K.length:Int) K (K.length:Int) (i:Int) K P) ((List.range' i d).all (okS K P) && compsB K P):=by
 intro d
 induction d with
 | zero =>
  intro i hi
  refine Ev.st (Ev.val (Valid_l1m K P hn h24) (by simp)) (fun k=>?_)
  simp only [q9.l0]
  rw [if_neg (by omega)]
 | succ d ih =>
  intro i hi
  rw [List.range'_succ,List.all_cons]
  have ih':=ih (i + 1) (by omega)
  have hw:=w1 i (by omega)
  generalize hX:((List.range' (i + 1) d).all (okS K P) && compsB K P) = X at ih'
  rw [Bool.and_assoc,hX]
  have hj:∀ b:Bool,b = decide (P.getD i 0 ≥ (i:Int)) → 1 ≤ K.getD i 0 → K.getD i 0 ≤ 4 → -1 ≤ P.getD i 0 → Ev (fun k=>q9.j2 k (K.length:Int) (K.getD i 0) (P.getD i 0) K (K.length:Int) (i:Int) b K P) (okS K P i && X):=by
   intro b hb h1 h2 h3
   by_cases h4:P.getD i 0 < i
   ·have hb' : b = false:=by rw [hb,decide_eq_false (by omega)]
    subst hb'
    have ho:okS K P i = (if P.getD i 0 = -1 then solidB (K.getD i 0) else solidB (rd K (P.getD i 0)) && (solidB (K.getD i 0) || rd K (P.getD i 0) == 1)):=by
     unfold okS;rw [decide_eq_true h1,decide_eq_true h2,decide_eq_true h3,decide_eq_true h4];simp only [Bool.true_and]
    rw [ho]
    by_cases h5:P.getD i 0 = -1
    ·rw [if_pos h5]
     by_cases h6:solidB (K.getD i 0) = true
     ·rw [h6,Bool.true_and]
      refine Ev.st ih' (fun k=>?_)
      simp only [q9.j2]
      rw [if_neg (by simp),if_pos h5,solid_f,Option.bind_some,if_pos h6,hw]
     ·refine Ev.ret (fun k=>?_)
      simp only [q9.j2]
      rw [if_neg (by simp),if_pos h5,solid_f,Option.bind_some,if_neg h6]
      rw [eq_false_of_ne_true h6];rfl
    ·rw [if_neg h5]
     by_cases h7:solidB (rd K (P.getD i 0)) = true
     ·by_cases h6:solidB (K.getD i 0) = true
      ·rw [h6,h7]
       refine Ev.st (Ev.val ih' (by simp)) (fun k=>?_)
       simp only [q9.j2]
       rw [if_neg (by simp),if_neg h5,if_pos (by omega),if_pos (by omega),solid_f,Option.bind_some,if_pos h7,solid_f,Option.bind_some,if_pos h6,hw]
      ·by_cases h8:rd K (P.getD i 0) = 1
       ·rw [h7,h8]
        refine Ev.st (Ev.val ih' (by simp)) (fun k=>?_)
        simp only [q9.j2]
        rw [if_neg (by simp),if_neg h5,if_pos (by omega),if_pos (by omega),solid_f,Option.bind_some,if_pos h7,solid_f,Option.bind_some,if_neg h6,if_pos h8,hw]
       ·refine Ev.ret (fun k=>?_)
        simp only [q9.j2]
        rw [if_neg (by simp),if_neg h5,if_pos (by omega),if_pos (by omega),solid_f,Option.bind_some,if_pos h7,solid_f,Option.bind_some,if_neg h6,if_neg h8]
        rw [eq_false_of_ne_true h6,h7,show (rd K (P.getD i 0) == 1) = false from beq_eq_false_iff_ne.mpr h8];rfl
     ·refine Ev.ret (fun k=>?_)
      simp only [q9.j2]
      rw [if_neg (by simp),if_neg h5,if_pos (by omega),if_pos (by omega),solid_f,Option.bind_some,if_neg h7]
      rw [eq_false_of_ne_true h7];rfl
   ·have hb' : b = true:=by rw [hb,decide_eq_true (by omega)]
    subst hb'
    refine Ev.ret (fun k=>?_)
    simp only [q9.j2]
    have h4' : decide (P.getD i 0 < (i:Int)) = false:=decide_eq_false h4
    rw [if_pos trivial];unfold okS;rw [h4'];simp
  have hf:(1 ≤ K.getD i 0 → K.getD i 0 ≤ 4 → -1 ≤ P.getD i 0 → False) → Ev (fun k=>q9.j2 k (K.length:Int) (K.getD i 0) (P.getD i 0) K (K.length:Int) (i:Int) true K P) (okS K P i && X):=by
   intro hx
   refine Ev.ret (fun k=>?_)
   simp only [q9.j2]
   rw [if_pos trivial]
   have:okS K P i = false:=by
    unfold okS
    by_cases h1:1 ≤ K.getD i 0
    ·by_cases h2:K.getD i 0 ≤ 4
     ·by_cases h3:-1 ≤ P.getD i 0
      ·exact (hx h1 h2 h3).elim
      ·rw [decide_eq_false h3];simp
     ·rw [decide_eq_false h2];simp
    ·rw [decide_eq_false h1];simp
   rw [this];rfl
  refine Ev.st (f:=fun k=>if (K.getD i 0) < 1 then (q9.j2 k (K.length:Int) (K.getD i 0) (P.getD i 0) K (K.length:Int) (i:Int) true K P) else (if (K.getD i 0) > 4 then (q9.j2 k (K.length:Int) (K.getD i 0) (P.getD i 0) K (K.length:Int) (i:Int) true K P) else (if (P.getD i 0) < (-1) then (q9.j2 k (K.length:Int) (K.getD i 0) (P.getD i 0) K (K.length:Int) (i:Int) true K P) else (q9.j2 k (K.length:Int) (K.getD i 0) (P.getD i 0) K (K.length:Int) (i:Int) (decide ((P.getD i 0) ≥ (i:Int))) K P)))) ?_ (fun k=>?_)
  ·refine Ev.iff (fun h=>hf (fun _ _ _=>by omega)) (fun h1=>Ev.iff (fun h=>hf (fun _ _ _=>by omega)) (fun h2=>Ev.iff (fun h=>hf (fun _ _ _=>by omega)) (fun h3=>hj _ rfl (by omega) (by omega) (by omega))))
  ·simp only [q9.l0]
   rw [if_pos (by omega),if_pos (by omega),if_pos (by omega),if_pos (by omega)]
   simp only [rd_nat]
theorem Valid_f (K P:List Int):Ev (fun k=>q9.f k K P) (validB K P):=by
 unfold q9.f
 by_cases h1:(K.length:Int) < 1
 ·simp only [if_pos h1]
  refine Ev.ret (fun k=>?_)
  simp only [q9.j0]
  rw [if_pos trivial];unfold validB;rw [decide_eq_false (by omega)];rfl
 ·by_cases h2:(K.length:Int) > 24
  ·simp only [if_neg h1,if_pos h2]
   refine Ev.ret (fun k=>?_)
   simp only [q9.j0]
   rw [if_pos trivial];unfold validB;rw [decide_eq_false (by omega)];rfl
  ·simp only [if_neg h1,if_neg h2]
   by_cases h3:P.length = K.length
   ·rw [show ((P.length:Int) != (K.length:Int)) = false by simp [h3]]
    refine Ev.st (Ev.val (Valid_l0 K P h3 (by omega) K.length 0 (by omega)) ?_) (fun k=>?_)
    ·unfold validB;rw [decide_eq_true (by omega)];simp
    ·simp only [q9.j0]
     rw [if_neg (by simp)];rfl
   ·rw [show ((P.length:Int) != (K.length:Int)) = true by simp;omega]
    refine Ev.ret (fun k=>?_)
    simp only [q9.j0]
    rw [if_pos trivial];unfold validB;rw [decide_eq_false (by omega)];rfl
end Go.Proofs.Ytnomeokicfpidaa.M
namespace Go.Proofs.Ytnomeokicfpidaa.Q
open Go.RowKit Go.Proofs.YtnomeokicfpidaaW.PrintWords Go.Proofs.YtnomeokicfpidaaW.PrintLast Go.Proofs.YtnomeokicfpidaaW.PrintMore
attribute [local go_sem] max2_int min2_int max_two min_two max_three min_three max_four min_four
set_option linter.unusedVariables false
set_option linter.unusedSimpArgs false
def q3.f (l0:List Int):Option (List Int):=if ([]:List Int).length + l0.length < 17592186044416 then (some (([]:List Int) ++ l0)) else (none)
end Go.Proofs.Ytnomeokicfpidaa.Q
namespace Go.Proofs.Ytnomeokicfpidaa.M
open Go.RowKit Go.Proofs.YtnomeokicfpidaaW.PrintWords Go.Proofs.YtnomeokicfpidaaW.PrintLast Go.Proofs.YtnomeokicfpidaaW.PrintMore Go.Proofs.Ytnomeokicfpidaa.Q
set_option linter.unusedVariables false
theorem within_f (a b:Int) (hb:1 ≤ b) (hb' : b ≤ 4611686018427387904):q5.f a b = some (a % b):=by
 unfold q5.f
 have h0:=Int.emod_nonneg a (show b ≠ 0 by omega)
 have h1:=Int.emod_lt_of_pos a (show 0 < b by omega)
 rw [if_neg (by omega),if_neg (by omega),Int.tmod_eq_emod]
 by_cases h:0 ≤ a ∨ b ∣ a
 ·rw [if_pos h,if_neg (by omega)];simp
 ·rw [if_neg h]
  have:a % b ≠ 0:=fun e=>h (.inr (Int.dvd_of_emod_eq_zero e))
  rw [if_pos (by omega),w64 (by omega) (by omega)]
  congr 1;omega
theorem wakes6_f:Ev (fun k=>q4.f k) true:=Ev.of (fun k=>q4.mono k) (k:=30) (by decide +kernel)
end Go.Proofs.Ytnomeokicfpidaa.M
namespace Go.Proofs.Ytnomeokicfpidaa.Q
open Go.RowKit Go.Proofs.YtnomeokicfpidaaW.PrintWords Go.Proofs.YtnomeokicfpidaaW.PrintLast Go.Proofs.YtnomeokicfpidaaW.PrintMore Go.Proofs.Ytnomeokicfpidaa.M Go.Proofs.Ytnomeokicfpidaa.FM
set_option linter.unusedVariables false
def q1.f (n:Int):Option Bool:=some true
theorem valid_of {K P:List Int} {b:Bool} (h:validB K P = b):∃ k,q9.f k K P = some b:=by
 rw [← h]
 exact (Valid_f K P).rounds
theorem none_at (m:Int) (m0:0 ≤ m) (m1:m ≤ 9):∀ (j:Nat) p,(none12 (2 + m))[j]? = some p → ∃ k,q9.f k p.1 p.2 = some false:=by
 intro j p hp
 have hmem:=List.mem_of_getElem? hp
 apply valid_of
 simp only [none12,List.mem_cons,List.not_mem_nil,or_false] at hmem
 rcases hmem with rfl|rfl|rfl|rfl|rfl|rfl|rfl|rfl|rfl|rfl|rfl|rfl
 ·decide
 ·decide
 ·decide
 ·obtain rfl|rfl|rfl|rfl|rfl|rfl|rfl|rfl|rfl|rfl:m = 0 ∨ m = 1 ∨ m = 2 ∨ m = 3 ∨ m = 4 ∨ m = 5 ∨ m = 6 ∨ m = 7 ∨ m = 8 ∨ m = 9:=by omega
  all_goals decide
 ·decide
 ·decide
 ·decide
 ·decide
 ·decide
 ·decide
 ·obtain rfl|rfl|rfl|rfl|rfl|rfl|rfl|rfl|rfl|rfl:m = 0 ∨ m = 1 ∨ m = 2 ∨ m = 3 ∨ m = 4 ∨ m = 5 ∨ m = 6 ∨ m = 7 ∨ m = 8 ∨ m = 9:=by omega
  all_goals decide
 ·decide +kernel
theorem q1.calls (a0:Int) (r:Bool) (w:World) (h:q1.f a0 = some r) :
  Calls Try.prog 5 #[.int .i64 a0] w fun e w'=>e = .returned (.bool r) ∧ Below w.heap.size w w':=by
 obtain rfl:true = r:=Option.some.inj h
 obtain ⟨m,m0,m1,hm⟩:∃ m:Int,0 ≤ m ∧ m ≤ 9 ∧ q5.f a0 9 = some m :=
  ⟨a0 % 9,by omega,by omega,within_f a0 9 (by omega) (by omega)⟩
 exact forms_calls a0 m w hm ⟨m0,m1⟩ (none_at m m0 m1) (valid_of (by decide +kernel)) (valid_of (by decide)) (valid_of (by decide)) (valid_of (by decide)) wakes6_f.rounds
end Go.Proofs.Ytnomeokicfpidaa.Q
namespace Go.Proofs.Ytnomeokicfpidaa.Pure
theorem ShapeForms (a0:Int) (_w0:(Go.Lit.int .i64 a0).wf = true):Go.Proofs.Ytnomeokicfpidaa.Q.q1.f a0 = some true:=rfl
end Go.Proofs.Ytnomeokicfpidaa.Pure
