-- merged and slimmed by slim.py (a program of this repo)
import Derived.Test.YtnomeokicfpidaaKEnterProper5
namespace Go.Proofs.Ytnomeokicfpidaa.EW
open Go.RowKit Go.Proofs.YtnomeokicfpidaaW.PrintWords Go.Proofs.YtnomeokicfpidaaW.PrintLast Go.Proofs.YtnomeokicfpidaaW.PrintMore Go.Proofs.Ytnomeokicfpidaa.Q Go.Proofs.Ytnomeokicfpidaa.M
attribute [local go_sem] max2_int min2_int max_two min_two max_three min_three max_four min_four
set_option linter.unusedVariables false
set_option linter.unusedSimpArgs false
set_option maxHeartbeats 8000000 in
set_option maxRecDepth 100000 in
theorem path_end {w0:World} {sK sP sQ:Value} {g:Nat} (a:Int) (r:List Int) (w:World) (v:Value) (out:List Int)
  (hW:WW w0 w g sK sP sQ v out)
  (IH:Calls Try.prog 52 #[.pointer (some ⟨g,0,none⟩),.int .i64 a] w (Put w0 w g sK sP sQ v r)) :
  Calls Try.prog 53 #[.pointer (some ⟨g,0,none⟩),.int .i64 a,.int .i64 a] w (Put w0 w g sK sP sQ v r):=by
 have t1:(a == a) = true:=beq_self_eq_true a
 have HH:=Aside0.mk IH
 clear IH hW
 go_enter Try.func53,Try.ntmps53
 go_wp2_with (go_at_call 52;(with_reducible refine HH.out.mono ?_);rintro e w4 ⟨rfl,v',hW4,hF4⟩)
 refine bodyPost_ret (v:=.tuple #[]) (by simp [results,Try.results53,go_sem]) rfl ?_
 exact ⟨rfl,v',hW4,hF4⟩
set_option maxHeartbeats 16000000 in
set_option maxRecDepth 100000 in
theorem path_step {w0:World} {AK AP AQ:Option Addr} {cK cP cQ:Nat} {lK lP lQ:List Int} {g:Nat}
  (hK:Kd.C (Kd.int .i64) w0 AK lK.length lK) (hcK:lK.length ≤ cK) (hP:Kd.C (Kd.int .i64) w0 AP lP.length lP) (hcP:lP.length ≤ cP) (hO:Ok lK lP)
  (z:Int) (z0:0 ≤ z) (z1:z < lK.length) (a:Int) (h0:0 ≤ a) (h1:a < lK.length) (hne:a ≠ z) (w:World) (v:Value) (out:List Int)
  (hW:WW w0 w g (.slice AK lK.length cK) (.slice AP lP.length cP) (.slice AQ lQ.length cQ) v out) (F G F1 G1:Int → List Int)
  (hF1:F1 = fun k=>if unB lP z k = true then F k else []) (hG1:G1 = fun k=>if rd lK a = 2 ∧ unB lP z k = false then G k else [])
  (hl:(out ++ [a] ++ ((kids lP a).flatMap F1 ++ (kids lP a).flatMap G1)).length < 17592186044416)
  (IH:∀ x ∈ kids lP a,∀ (w:World) (v:Value) (out:List Int),WW w0 w g (.slice AK lK.length cK) (.slice AP lP.length cP) (.slice AQ lQ.length cQ) v out → (out ++ F x).length < 17592186044416 → Calls Try.prog 53 #[.pointer (some ⟨g,0,none⟩),.int .i64 x,.int .i64 z] w (Put w0 w g (.slice AK lK.length cK) (.slice AP lP.length cP) (.slice AQ lQ.length cQ) v (out ++ F x)))
  (JH:∀ x ∈ kids lP a,∀ (w:World) (v:Value) (out:List Int),WW w0 w g (.slice AK lK.length cK) (.slice AP lP.length cP) (.slice AQ lQ.length cQ) v out → (out ++ G x).length < 17592186044416 → Calls Try.prog 52 #[.pointer (some ⟨g,0,none⟩),.int .i64 x] w (Put w0 w g (.slice AK lK.length cK) (.slice AP lP.length cP) (.slice AQ lQ.length cQ) v (out ++ G x))) :
  Calls Try.prog 53 #[.pointer (some ⟨g,0,none⟩),.int .i64 a,.int .i64 z] w (Put w0 w g (.slice AK lK.length cK) (.slice AP lP.length cP) (.slice AQ lQ.length cQ) v (out ++ [a] ++ ((kids lP a).flatMap F1 ++ (kids lP a).flatMap G1))):=by
 have hn:=hO.1
 have h24:=hO.2.2.2.2
 have hkin:=kids_in hn a
 obtain ⟨k,hk⟩:=(Kids_f lK lP a (by omega)).rounds
 have hu24:=Try.underlying24
 have hu70:=Try.underlying70
 have hc0:w.cell? ⟨g,0,none⟩ = some (.slice AK lK.length cK):=(blk_cell hW.blk 0).trans rfl
 have hc1:w.cell? ⟨g,1,none⟩ = some (.slice AP lP.length cP):=(blk_cell hW.blk 1).trans rfl
 have hc3:w.cell? ⟨g,3,none⟩ = some v:=(blk_cell hW.blk 3).trans rfl
 have t1:(a == z) = false:=beq_eq_false_iff_ne.mpr hne
 have HZ:=zk (And.intro z0 z1)
 have HA:=zk (And.intro h0 h1)
 clear hne z0 z1 h0 h1
 have HF1:=Aside0.mk hF1
 have HG1:=Aside0.mk hG1
 clear hF1 hG1
 have HO:=Aside0.mk hO
 clear hO
 have HKI:=Aside0.mk hkin
 clear hkin
 have HW:=Aside0.mk hW
 clear hW
 have HK:=Aside0.mk hk
 clear hk
 have HN:=Aside0.mk hn
 clear hn
 obtain ⟨y,hy⟩:∃ y:List Int,y = out ++ [a]:=⟨_,rfl⟩
 have hlen:y.length = out.length + 1:=by rw [hy,List.length_append,List.length_singleton]
 rw [← hy] at hl ⊢
 have hly:y.length + (((kids lP a).flatMap F1).length + ((kids lP a).flatMap G1).length) < 17592186044416:=by rw [List.length_append,List.length_append] at hl;exact hl
 have HL:=zk (show out.length + 1 < 17592186044416 by omega)
 have HLY:=Aside0.mk hly
 clear hl hly hlen
 have HY:=Aside0.mk hy
 clear hy
 have HH:=Aside0.mk IH
 have HJ:=Aside0.mk JH
 clear IH JH
 have hkl:=kids_len lP a
 obtain ⟨L,hL⟩:∃ L,L = kids lP a:=⟨_,rfl⟩
 rw [← hL] at hkl
 have HLL:=Aside0.mk hL
 have hl24:L.length ≤ 24:=by have:=HN.out;omega
 clear hL hkl
 go_enter Try.func53,Try.ntmps53
 go_wp2_with (first|((with_reducible refine gate_builtin (b:=.append) (xs:=#[.tmp 21,.tmp 23]) rfl ?_);at_builtin;refine Kd.R_append (Kd.int .i64) (w0:=w0) w0.heap.size rfl (.tmp 21) (.tmp 23) 22 3 (.int .i64 0) 8 rfl Try.underlying22 infoI rfl (by decide) (by omega) v out a [.int .i64 a] (fun _=>True) (fun _=>False) rfl rfl ?aP (fun _ hk=>hk.elim) ?aF ?aO ?aB ?aS ?aL ?_;(case aP=>exact rfl);(case aB=>exact HW.out.below);(case aF=>exact (fun _ _=>trivial));(case aO=>exact HW.out.own);(case aS=>exact HW.out.below.size);(case aL=>have:=HL.out;omega);intro v1 w1 ho hb hg hat;rw [← HY.out] at ho;obtain ⟨Av,cv,ev⟩:=Kd.R_slice ho;subst ev;obtain ⟨hb1,hW2,hF⟩:=HW.out.push ho hb hg hat;clear ho hb hg hat;have hc3' : w1.cell? ⟨g,3,none⟩ = some v:=(blk_cell hb1 3).trans rfl;have hf3':=blk_frozen hb1 3;clear hb1;have hd0:(w1.setCell ⟨g,3,none⟩ (.slice Av y.length cv)).cell? ⟨g,0,none⟩ = some (.slice AK lK.length cK):=(blk_cell hW2.blk 0).trans rfl;have hd1:(w1.setCell ⟨g,3,none⟩ (.slice Av y.length cv)).cell? ⟨g,1,none⟩ = some (.slice AP lP.length cP):=(blk_cell hW2.blk 1).trans rfl;have HW2:=Aside0.mk hW2;clear hW2;have HF:=Aside0.mk hF;clear hF)|(go_at_call 25;(with_reducible refine (q29.calls k _ _ lK _ _ lP a _ _ ?s1 ?s2 ?s3 ?s4 HK.out).mono ?_);(case s1=>exact Kd.C_below hK HW2.out.below);(case s2=>exact hcK);(case s3=>exact Kd.C_below hP HW2.out.below);(case s4=>exact hcP);rintro e w3 ⟨vk,rfl,hok,hb3⟩;rw [← HLL.out] at hok;obtain ⟨Ak,ck,ek⟩:=Kd.R_slice hok;subst ek;have HOK:=Aside0.mk hok;clear hok;have HB3:=Aside0.mk hb3;clear hb3))
 go_loopg [8,35] L.length (fun kq v8 v35 w'=>∃ (xi:Int) (v' : Value),v35 = .int .i64 xi ∧ Aside0 (0 ≤ xi ∧ xi + kq = L.length) ∧ Aside0 (WW w0 w' g (.slice AK lK.length cK) (.slice AP lP.length cP) (.slice AQ lQ.length cQ) v' (y ++ (L.take xi.toNat).flatMap F1)) ∧ Aside0 (Fr w3 w' g (.slice Av y.length cv) v'))
 case atStart=>exact ⟨0,_,rfl,⟨by omega,by omega⟩,⟨by simpa using HW2.out.step HB3.out⟩,⟨Fr.refl _ _ _⟩⟩
 case round =>
  obtain ⟨xi,v',rfl,HX,HW3,HF3⟩:=hrel
  cases gk with
  | zero =>
   have c1:decide (xi < (L.length:Int)) = false:=decide_eq_false (by have:=HX.out;omega)
   have hdone:y ++ (L.take xi.toNat).flatMap F1 = y ++ L.flatMap F1:=by rw [List.take_of_length_le (by have:=HX.out;omega)]
   have hW4:=HW3.out
   rw [hdone] at hW4
   have HW4:=Aside0.mk hW4
   clear hdone hW4 HW3
   have HFA:=Aside0.mk HF3.out
   clear HF3 HX
   go_wp2
   go_loopg [10,53] L.length (fun kq v10 v53 w'=>∃ (xi:Int) (v' : Value),v53 = .int .i64 xi ∧ Aside0 (0 ≤ xi ∧ xi + kq = L.length) ∧ Aside0 (WW w0 w' g (.slice AK lK.length cK) (.slice AP lP.length cP) (.slice AQ lQ.length cQ) v' (y ++ L.flatMap F1 ++ (L.take xi.toNat).flatMap G1)) ∧ Aside0 (Fr w3 w' g (.slice Av y.length cv) v'))
   case atStart=>exact ⟨0,_,rfl,⟨by omega,by omega⟩,⟨by simpa using HW4.out⟩,HFA⟩
   case round =>
    clear c1 HFA HW4
    obtain ⟨xi,v',rfl,HX,HW3,HF3⟩:=hrel
    cases gk with
    | zero =>
     have c1:decide (xi < (L.length:Int)) = false:=decide_eq_false (by have:=HX.out;omega)
     have hdone:y ++ L.flatMap F1 ++ (L.take xi.toNat).flatMap G1 = y ++ (L.flatMap F1 ++ L.flatMap G1):=by rw [List.take_of_length_le (by have:=HX.out;omega),List.append_assoc]
     have HD:=Aside0.mk hdone
     clear hdone
     go_wp2
     go_end0
     rw [← HLL.out,← HD.out]
     exact ⟨rfl,v',HW3.out,(HF.out.trans (Fr.of_below HB3.out g _)).trans HF3.out⟩
    | succ k1 =>
     have c0:=eq_true HX.out.1
     have hlt:xi < (L.length:Int):=by have:=HX.out;omega
     have c1:=eq_true hlt
     have c2:decide (xi < (L.length:Int)) = true:=decide_eq_true hlt
     have hr:=row_after HOK.out HW2.out.lt (Kd.R_lt HW2.out.own) HF3.out
     obtain ⟨adk,ek,hxk⟩:=Kd.at_int (Kd.R_reads' hr).2.2 xi HX.out.1 (by omega)
     subst ek
     clear hr hlt
     have hmem:rd L xi ∈ kids lP a:=by
      rw [← HLL.out]
      have:=HX.out
      unfold rd
      rw [List.getD_eq_getElem?_getD,List.getElem?_eq_getElem (by omega)];exact List.getElem_mem _
     have hft:(L.take (xi + 1).toNat).flatMap G1 = (L.take xi.toNat).flatMap G1 ++ G1 (rd L xi):=by
      have:=HX.out
      rw [show (xi + 1).toNat = xi.toNat + 1 by omega,flat_take (by omega),show ((xi.toNat:Nat):Int) = xi by omega]
     have hbd:((y ++ L.flatMap F1) ++ (L.take xi.toNat).flatMap G1 ++ G1 (rd L xi)).length < 17592186044416:=by
      rw [List.append_assoc,← hft,List.length_append]
      have:=flat_le (F:=G1) (L:=L) (xi + 1).toNat
      have:=HLY.out
      rw [← HLL.out] at this
      have hyl:=@List.length_append _ y (L.flatMap F1)
      omega
     obtain ⟨x,hx⟩:∃ x,rd L xi = x:=⟨_,rfl⟩
     rw [hx] at hxk hmem hft hbd
     have hd0' : _ = some (Value.slice AK lK.length cK):=(blk_cell HW3.out.blk 0).trans rfl
     have hd1' : _ = some (Value.slice AP lP.length cP):=(blk_cell HW3.out.blk 1).trans rfl
     have hxr:=HKI.out x hmem
     obtain ⟨ku,hku⟩:=(Under_f HN.out HO.out.tree HZ.out.1 HZ.out.2 (show -1 ≤ x by omega) hxr.2).rounds
     have HM:=Aside0.mk hmem
     have HXX:=Aside0.mk hx
     clear hmem hx hxr
     have hw:wrap64 (xi + 1) = xi + 1:=by have:=HX.out;exact w64 (by omega) (by omega)
     have HWR:=Aside0.mk hw
     clear hw
     obtain ⟨adK,eK,hxK⟩:=Kd.at_int (Kd.C_below hK HW3.out.below) a HA.out.1 (by have:=HA.out;omega)
     subst eK
     have q0:=eq_true HA.out.1
     have q1:=eq_true HA.out.2
     by_cases u2:rd lK a = 2
     ·have t2:(rd lK a == 2) = true:=beq_iff_eq.mpr u2
      by_cases u:unB lP z x = true
      ·have e1:G1 x = []:=by rw [HG1.out];exact if_neg (by rw [u];simp)
       rw [e1,List.append_nil] at hft
       rw [u] at hku
       have HKU:=Aside0.mk hku
       have HFT:=Aside0.mk hft
       clear u u2 e1 hku hft hbd
       go_wp2_with (first|(go_at_call 27;(with_reducible refine (q27.calls ku _ _ lK _ _ lP z x _ _ ?s1 ?s2 ?s3 ?s4 HKU.out).mono ?_);(case s1=>exact Kd.C_below hK HW3.out.below);(case s2=>exact hcK);(case s3=>exact Kd.C_below hP HW3.out.below);(case s4=>exact hcP);rintro e w5 ⟨rfl,hb5⟩;have HB5:=Aside0.mk hb5;clear hb5))
       go_roundg k1
       case measure=>have:=HX.out;omega
       case rel=>exact ⟨wrap64 (xi + 1),v',oE,⟨by rw [HWR.out];have:=HX.out;omega⟩,⟨by rw [HWR.out,HFT.out];exact HW3.out.step HB5.out⟩,⟨HF3.out.trans (Fr.of_below HB5.out g _)⟩⟩
      ·have u:=eq_false_of_ne_true u
       have e1:G1 x = G x:=by rw [HG1.out];exact if_pos ⟨u2,u⟩
       rw [e1] at hft hbd
       rw [u] at hku
       have HKU:=Aside0.mk hku
       have HFT:=Aside0.mk hft
       have HBD:=Aside0.mk hbd
       clear u u2 e1 hku hft hbd
       go_wp2_with (first|(go_at_call 27;(with_reducible refine (q27.calls ku _ _ lK _ _ lP z x _ _ ?s1 ?s2 ?s3 ?s4 HKU.out).mono ?_);(case s1=>exact Kd.C_below hK HW3.out.below);(case s2=>exact hcK);(case s3=>exact Kd.C_below hP HW3.out.below);(case s4=>exact hcP);rintro e w5 ⟨rfl,hb5⟩;have HB5:=Aside0.mk hb5;clear hb5)|(go_at_call 52;(with_reducible refine (HJ.out x HM.out w5 _ _ (HW3.out.step HB5.out) HBD.out).mono ?_);rintro e w4 ⟨rfl,v4,hW4,hF4⟩;have HW4:=Aside0.mk hW4;have HF4:=Aside0.mk hF4;clear hW4 hF4))
       go_roundg k1
       case measure=>have:=HX.out;omega
       case rel=>exact ⟨wrap64 (xi + 1),v4,oE,⟨by rw [HWR.out];have:=HX.out;omega⟩,⟨by rw [HWR.out,HFT.out,← List.append_assoc];exact HW4.out⟩,⟨(HF3.out.trans (Fr.of_below HB5.out g _)).trans HF4.out⟩⟩
     ·have t2:(rd lK a == 2) = false:=beq_eq_false_iff_ne.mpr u2
      have e1:G1 x = []:=by rw [HG1.out];exact if_neg (fun h=>u2 h.1)
      rw [e1,List.append_nil] at hft
      have HFT:=Aside0.mk hft
      clear u2 e1 hku hft hbd
      go_wp2
      go_roundg k1
      case measure=>have:=HX.out;omega
      case rel=>exact ⟨wrap64 (xi + 1),v',oE,⟨by rw [HWR.out];have:=HX.out;omega⟩,⟨by rw [HWR.out,HFT.out];exact HW3.out⟩,⟨HF3.out⟩⟩
  | succ k1 =>
   have c0:=eq_true HX.out.1
   have hlt:xi < (L.length:Int):=by have:=HX.out;omega
   have c1:=eq_true hlt
   have c2:decide (xi < (L.length:Int)) = true:=decide_eq_true hlt
   have hr:=row_after HOK.out HW2.out.lt (Kd.R_lt HW2.out.own) HF3.out
   obtain ⟨adk,ek,hxk⟩:=Kd.at_int (Kd.R_reads' hr).2.2 xi HX.out.1 (by omega)
   subst ek
   clear hr hlt
   have hmem:rd L xi ∈ kids lP a:=by
    rw [← HLL.out]
    have:=HX.out
    unfold rd
    rw [List.getD_eq_getElem?_getD,List.getElem?_eq_getElem (by omega)];exact List.getElem_mem _
   have hft:(L.take (xi + 1).toNat).flatMap F1 = (L.take xi.toNat).flatMap F1 ++ F1 (rd L xi):=by
    have:=HX.out
    rw [show (xi + 1).toNat = xi.toNat + 1 by omega,flat_take (by omega),show ((xi.toNat:Nat):Int) = xi by omega]
   have hbd:(y ++ (L.take xi.toNat).flatMap F1 ++ F1 (rd L xi)).length < 17592186044416:=by
    rw [List.append_assoc,← hft,List.length_append]
    have:=flat_le (F:=F1) (L:=L) (xi + 1).toNat
    have:=HLY.out
    rw [← HLL.out] at this
    have hyl:=@List.length_append _ y (L.flatMap F1)
    omega
   obtain ⟨x,hx⟩:∃ x,rd L xi = x:=⟨_,rfl⟩
   rw [hx] at hxk hmem hft hbd
   have hd0' : _ = some (Value.slice AK lK.length cK):=(blk_cell HW3.out.blk 0).trans rfl
   have hd1' : _ = some (Value.slice AP lP.length cP):=(blk_cell HW3.out.blk 1).trans rfl
   have hxr:=HKI.out x hmem
   obtain ⟨ku,hku⟩:=(Under_f HN.out HO.out.tree HZ.out.1 HZ.out.2 (show -1 ≤ x by omega) hxr.2).rounds
   have HM:=Aside0.mk hmem
   have HXX:=Aside0.mk hx
   clear hmem hx hxr
   have hw:wrap64 (xi + 1) = xi + 1:=by have:=HX.out;exact w64 (by omega) (by omega)
   have HWR:=Aside0.mk hw
   clear hw
   by_cases u:unB lP z x = true
   ·have e1:F1 x = F x:=by rw [HF1.out];exact if_pos u
    rw [e1] at hft hbd
    rw [u] at hku
    have HKU:=Aside0.mk hku
    have HFT:=Aside0.mk hft
    have HBD:=Aside0.mk hbd
    clear u e1 hku hft hbd
    go_wp2_with (first|(go_at_call 27;(with_reducible refine (q27.calls ku _ _ lK _ _ lP z x _ _ ?s1 ?s2 ?s3 ?s4 HKU.out).mono ?_);(case s1=>exact Kd.C_below hK HW3.out.below);(case s2=>exact hcK);(case s3=>exact Kd.C_below hP HW3.out.below);(case s4=>exact hcP);rintro e w5 ⟨rfl,hb5⟩;have HB5:=Aside0.mk hb5;clear hb5)|(go_at_call 53;(with_reducible refine (HH.out x HM.out w5 _ _ (HW3.out.step HB5.out) HBD.out).mono ?_);rintro e w4 ⟨rfl,v4,hW4,hF4⟩;have HW4:=Aside0.mk hW4;have HF4:=Aside0.mk hF4;clear hW4 hF4))
    go_roundg k1
    case measure=>have:=HX.out;omega
    case rel=>exact ⟨wrap64 (xi + 1),v4,oE,⟨by rw [HWR.out];have:=HX.out;omega⟩,⟨by rw [HWR.out,HFT.out,← List.append_assoc];exact HW4.out⟩,⟨(HF3.out.trans (Fr.of_below HB5.out g _)).trans HF4.out⟩⟩
   ·have u:=eq_false_of_ne_true u
    have e1:F1 x = []:=by rw [HF1.out];exact if_neg (by rw [u];simp)
    rw [e1,List.append_nil] at hft
    rw [u] at hku
    have HKU:=Aside0.mk hku
    have HFT:=Aside0.mk hft
    clear u e1 hku hft hbd
    go_wp2_with (first|(go_at_call 27;(with_reducible refine (q27.calls ku _ _ lK _ _ lP z x _ _ ?s1 ?s2 ?s3 ?s4 HKU.out).mono ?_);(case s1=>exact Kd.C_below hK HW3.out.below);(case s2=>exact hcK);(case s3=>exact Kd.C_below hP HW3.out.below);(case s4=>exact hcP);rintro e w5 ⟨rfl,hb5⟩;have HB5:=Aside0.mk hb5;clear hb5))
    go_roundg k1
    case measure=>have:=HX.out;omega
    case rel=>exact ⟨wrap64 (xi + 1),v',oE,⟨by rw [HWR.out];have:=HX.out;omega⟩,⟨by rw [HWR.out,HFT.out];exact HW3.out.step HB5.out⟩,⟨HF3.out.trans (Fr.of_below HB5.out g _)⟩⟩
end Go.Proofs.Ytnomeokicfpidaa.EW
namespace Go.Proofs.Ytnomeokicfpidaa.EW
open Go.RowKit Go.Proofs.YtnomeokicfpidaaW.PrintWords Go.Proofs.YtnomeokicfpidaaW.PrintLast Go.Proofs.YtnomeokicfpidaaW.PrintMore Go.Proofs.Ytnomeokicfpidaa.Q Go.Proofs.Ytnomeokicfpidaa.M
attribute [local go_sem] max2_int min2_int max_two min_two max_three min_three max_four min_four
set_option linter.unusedVariables false
set_option linter.unusedSimpArgs false
theorem path_calls {w0:World} {AK AP AQ:Option Addr} {cK cP cQ:Nat} {lK lP lQ:List Int} {g:Nat}
  (hK:Kd.C (Kd.int .i64) w0 AK lK.length lK) (hcK:lK.length ≤ cK) (hP:Kd.C (Kd.int .i64) w0 AP lP.length lP) (hcP:lP.length ≤ cP) (hQ:Kd.C (Kd.int .u32) w0 AQ lQ.length lQ) (hcQ:lQ.length ≤ cQ) (hO:Ok lK lP)
  (z:Int) (z0:0 ≤ z) (z1:z < lK.length):∀ (f:Nat) (a:Int),0 ≤ a → a < lK.length → (lK.length:Int) - a ≤ f → ∀ (w:World) (v:Value) (out:List Int),
  WW w0 w g (.slice AK lK.length cK) (.slice AP lP.length cP) (.slice AQ lQ.length cQ) v out → (out ++ pathR lK lP lQ z f a).length < 17592186044416 →
  Calls Try.prog 53 #[.pointer (some ⟨g,0,none⟩),.int .i64 a,.int .i64 z] w (Put w0 w g (.slice AK lK.length cK) (.slice AP lP.length cP) (.slice AQ lQ.length cQ) v (out ++ pathR lK lP lQ z f a)):=by
 intro f
 induction f with
 | zero=>intro a h0 h1 h2;omega
 | succ f ih =>
  intro a h0 h1 h2 w v out hW hl
  rw [pathR] at hl ⊢
  by_cases e:a = z
  ·subst e
   rw [if_pos rfl] at hl ⊢
   exact path_end a _ w v out hW (in_any hK hcK hP hcP hQ hcQ hO a h0 h1 w v out hW hl)
  ·rw [if_neg e] at hl ⊢
   have e2:∀ r:List Int,out ++ a :: r = out ++ [a] ++ r:=fun r=>by simp
   rw [e2] at hl ⊢
   refine path_step hK hcK hP hcP hO z z0 z1 a h0 h1 e w v out hW (pathR lK lP lQ z f) (inA lK lP lQ) _ _ rfl rfl hl (fun x hx w v out hW hl=>?_) (fun x hx w v out hW hl=>?_)
   ·obtain ⟨x0,x1,x2,_⟩:=hO.kid hx
    exact ih x x0 x1 (by omega) w v out hW hl
   ·obtain ⟨x0,x1,x2,_⟩:=hO.kid hx
    exact in_any hK hcK hP hcP hQ hcQ hO x x0 x1 w v out hW hl
def enterL (K P Q:List Int) (d z:Int):List Int:=(kids P d).flatMap (fun k=>if unB P z k = true then pathR K P Q z K.length k else [])
def startL (K P:List Int):List Int:=if 0 ≤ initial K P (-1) then inS K P K.length (initial K P (-1)) else []
set_option maxHeartbeats 16000000 in
set_option maxRecDepth 100000 in
theorem enter_calls {w:World} {AK AP AQ:Option Addr} {cK cP cQ:Nat} {lK lP lQ:List Int}
  (hK:Kd.C (Kd.int .i64) w AK lK.length lK) (hcK:lK.length ≤ cK) (hP:Kd.C (Kd.int .i64) w AP lP.length lP) (hcP:lP.length ≤ cP) (hQ:Kd.C (Kd.int .u32) w AQ lQ.length lQ) (hcQ:lQ.length ≤ cQ) (hO:Ok lK lP)
  (d z:Int) (z0:0 ≤ z) (z1:z < lK.length) (hl:(enterL lK lP lQ d z).length < 17592186044416) :
  Calls Try.prog 33 #[.agg #[.slice AK lK.length cK,.slice AP lP.length cP],.int .i64 d,.int .i64 z,.slice AQ lQ.length cQ] w fun e w'=>∃ v0_:Value,e = .returned (v0_) ∧ Kd.R (Kd.int .i64) 3 w' w.heap.size (fun _=>True) v0_ (enterL lK lP lQ d z) ∧ Below w.heap.size w w':=by
 have hn:=hO.1
 have h24:=hO.2.2.2.2
 have HKI:=zk (fun x (hx:x ∈ kids lP d)=>hO.kid hx)
 obtain ⟨k,hk⟩:=(Kids_f lK lP d (by omega)).rounds
 have hu24:=Try.underlying24
 have hu70:=Try.underlying70
 obtain ⟨F1,hF1⟩:∃ F1:Int → List Int,F1 = fun k=>if unB lP z k = true then pathR lK lP lQ z lK.length k else []:=⟨_,rfl⟩
 have hkl:=kids_len lP d
 obtain ⟨L,hL⟩:∃ L,L = kids lP d:=⟨_,rfl⟩
 have hEL:enterL lK lP lQ d z = L.flatMap F1:=by rw [hL,hF1];rfl
 rw [hEL] at hl ⊢
 rw [← hL] at hkl
 have hl24:L.length ≤ 24:=by omega
 have HZ:=zk (And.intro z0 z1)
 have HF1:=Aside0.mk hF1
 have HO:=Aside0.mk hO
 have HK:=Aside0.mk hk
 have HN:=Aside0.mk hn
 have HL:=Aside0.mk hl
 have HLL:=Aside0.mk hL
 have HR:=zk (And.intro hK (And.intro hP hQ))
 have HPC:=zk (path_calls (g:=w.heap.size + 1) hK hcK hP hcP hQ hcQ hO z z0 z1 lK.length)
 obtain ⟨W1,hW1⟩:∃ W1:World,W1 = (w.alloc (.cells #[.slice AK lK.length cK,.slice AP lP.length cP] 24)).alloc (.cells #[.slice AK lK.length cK,.slice AP lP.length cP,.slice AQ lQ.length cQ,.slice none 0 0] 70):=⟨_,rfl⟩
 have hww:WW w W1 (w.heap.size + 1) (.slice AK lK.length cK) (.slice AP lP.length cP) (.slice AQ lQ.length cQ) (.slice none 0 0) []:=by
  rw [hW1]
  exact ⟨((Below.refl w.heap.size w).alloc (Nat.le_refl _) _).alloc (by simp) _,by omega,by simpa using heap_alloc_new (w.alloc _) _,Kd.R_nil _ _ _ _ _⟩
 have hb1:W1.heap[w.heap.size]? = some (.cells #[.slice AK lK.length cK,.slice AP lP.length cP] 24 (0,0)):=by
  rw [hW1]
  exact ((Below.refl _ _).alloc (Nat.le_refl _) _:Below (w.alloc (.cells #[.slice AK lK.length cK,.slice AP lP.length cP] 24)).heap.size _ _).block _ (by simp) |>.trans (by simpa using heap_alloc_new w _)
 have hs1:w.heap.size + 1 < W1.heap.size:=by rw [hW1];simp
 have HWW:=Aside0.mk hww
 have HB1:=Aside0.mk hb1
 have HS1:=Aside0.mk hs1
 have HW1:=Aside0.mk hW1
 clear hK hP hQ z0 z1 hF1 hO hk hn hl hL hkl hEL hW1 hww hb1 hs1
 go_enter Try.func33,Try.ntmps33
 go_wp2_with (go_at_call 25;rw [← HW1.out];(with_reducible refine (q29.calls k _ _ lK _ _ lP d _ _ ?s1 ?s2 ?s3 ?s4 HK.out).mono ?_);(case s1=>exact Kd.C_below HR.out.1 HWW.out.below);(case s2=>exact hcK);(case s3=>exact Kd.C_below HR.out.2.1 HWW.out.below);(case s4=>exact hcP);rintro e w3 ⟨vk,rfl,hok,hb3⟩;rw [← HLL.out] at hok;obtain ⟨Ak,ck,ek⟩:=Kd.R_slice hok;subst ek;have HOK:=Aside0.mk hok;clear hok;have HB3:=Aside0.mk hb3;clear hb3)
 go_loopg [11,20] L.length (fun kq v11 v20 w'=>∃ (xi:Int) (v' : Value),v20 = .int .i64 xi ∧ Aside0 (0 ≤ xi ∧ xi + kq = L.length) ∧ Aside0 (WW w w' (w.heap.size + 1) (.slice AK lK.length cK) (.slice AP lP.length cP) (.slice AQ lQ.length cQ) v' ((L.take xi.toNat).flatMap F1)) ∧ Aside0 (Fr w3 w' (w.heap.size + 1) (.slice none 0 0) v'))
 case atStart=>exact ⟨0,_,rfl,⟨by omega,by omega⟩,⟨by simpa using HWW.out.step HB3.out⟩,⟨Fr.refl _ _ _⟩⟩
 case round =>
  obtain ⟨xi,v',rfl,HX,HW3,HF3⟩:=hrel
  cases gk with
  | zero =>
   have c1:decide (xi < (L.length:Int)) = false:=decide_eq_false (by have:=HX.out;omega)
   have hdone:(L.take xi.toNat).flatMap F1 = L.flatMap F1:=by rw [List.take_of_length_le (by have:=HX.out;omega)]
   have hW:=HW3.out
   rw [hdone] at hW
   obtain ⟨y,hy⟩:∃ y,y = L.flatMap F1:=⟨_,rfl⟩
   rw [← hy] at hW
   have HY:=Aside0.mk hy
   clear hdone hy HW3
   have hd3:_ = some v':=(blk_cell hW.blk 3).trans rfl
   obtain ⟨Av,cv,ev⟩:=Kd.R_slice hW.own
   subst ev
   have HW:=Aside0.mk hW
   clear hW
   go_wp2
   go_ret
   rw [← HY.out]
   exact ⟨_,rfl,HW.out.own,HW.out.below⟩
  | succ k1 =>
   have c0:=eq_true HX.out.1
   have hlt:xi < (L.length:Int):=by have:=HX.out;omega
   have c1:=eq_true hlt
   have c2:decide (xi < (L.length:Int)) = true:=decide_eq_true hlt
   have hr:=row_after HOK.out HS1.out (fun k hk=>by simp [Value.ownBlock] at hk) HF3.out
   obtain ⟨adk,ek,hxk⟩:=Kd.at_int (Kd.R_reads' hr).2.2 xi HX.out.1 (by omega)
   subst ek
   clear hr hlt
   have hmem:rd L xi ∈ kids lP d:=by
    rw [← HLL.out]
    have:=HX.out
    unfold rd
    rw [List.getD_eq_getElem?_getD,List.getElem?_eq_getElem (by omega)];exact List.getElem_mem _
   have hft:(L.take (xi + 1).toNat).flatMap F1 = (L.take xi.toNat).flatMap F1 ++ F1 (rd L xi):=by
    have:=HX.out
    rw [show (xi + 1).toNat = xi.toNat + 1 by omega,flat_take (by omega),show ((xi.toNat:Nat):Int) = xi by omega]
   have hbd:((L.take xi.toNat).flatMap F1 ++ F1 (rd L xi)).length < 17592186044416:=by
    rw [← hft]
    have:=flat_le (F:=F1) (L:=L) (xi + 1).toNat
    have:=HL.out
    omega
   obtain ⟨x,hx⟩:∃ x,rd L xi = x:=⟨_,rfl⟩
   rw [hx] at hxk hmem hft hbd
   have hbs:_ = some (Obj.cells #[.slice AK lK.length cK,.slice AP lP.length cP] 24 (0,0)):=(HF3.out.block w.heap.size (by have:=HS1.out;have:=HB3.out.size;omega) (by omega) (by simp [Value.ownBlock])).trans ((HB3.out.block _ (by have:=HS1.out;omega)).trans HB1.out)
   have hd0' : _ = some (Value.slice AK lK.length cK):=(blk_cell hbs 0).trans rfl
   have hd1' : _ = some (Value.slice AP lP.length cP):=(blk_cell hbs 1).trans rfl
   obtain ⟨x0,x1,_⟩:=HKI.out x hmem
   obtain ⟨ku,hku⟩:=(Under_f HN.out HO.out.tree HZ.out.1 HZ.out.2 (show -1 ≤ x by omega) x1).rounds
   have HM:=zk (And.intro x0 x1)
   have HXX:=Aside0.mk hx
   have HBS:=Aside0.mk hbs
   clear hmem hx hbs x0 x1
   have hw:wrap64 (xi + 1) = xi + 1:=by have:=HX.out;exact w64 (by omega) (by omega)
   have HWR:=Aside0.mk hw
   clear hw
   by_cases u:unB lP z x = true
   ·have e1:F1 x = pathR lK lP lQ z lK.length x:=by rw [HF1.out];exact if_pos u
    rw [e1] at hft hbd
    rw [u] at hku
    have HKU:=Aside0.mk hku
    have HFT:=Aside0.mk hft
    have HBD:=Aside0.mk hbd
    clear u e1 hku hft hbd
    go_wp2_with (first|(go_at_call 27;(with_reducible refine (q27.calls ku _ _ lK _ _ lP z x _ _ ?s1 ?s2 ?s3 ?s4 HKU.out).mono ?_);(case s1=>exact Kd.C_below HR.out.1 HW3.out.below);(case s2=>exact hcK);(case s3=>exact Kd.C_below HR.out.2.1 HW3.out.below);(case s4=>exact hcP);rintro e w5 ⟨rfl,hb5⟩;have HB5:=Aside0.mk hb5;clear hb5)|(go_at_call 53;(with_reducible refine (HPC.out x HM.out.1 HM.out.2 (by have:=HM.out;omega) w5 _ _ (HW3.out.step HB5.out) HBD.out).mono ?_);rintro e w4 ⟨rfl,v4,hW4,hF4⟩;have HW4:=Aside0.mk hW4;have HF4:=Aside0.mk hF4;clear hW4 hF4))
    go_roundg k1
    case measure=>have:=HX.out;omega
    case rel=>exact ⟨wrap64 (xi + 1),v4,oE,⟨by rw [HWR.out];have:=HX.out;omega⟩,⟨by rw [HWR.out,HFT.out];exact HW4.out⟩,⟨(HF3.out.trans (Fr.of_below HB5.out _ _)).trans HF4.out⟩⟩
   ·have u:=eq_false_of_ne_true u
    have e1:F1 x = []:=by rw [HF1.out];exact if_neg (by rw [u];simp)
    rw [e1,List.append_nil] at hft
    rw [u] at hku
    have HKU:=Aside0.mk hku
    have HFT:=Aside0.mk hft
    clear u e1 hku hft hbd
    go_wp2_with (first|(go_at_call 27;(with_reducible refine (q27.calls ku _ _ lK _ _ lP z x _ _ ?s1 ?s2 ?s3 ?s4 HKU.out).mono ?_);(case s1=>exact Kd.C_below HR.out.1 HW3.out.below);(case s2=>exact hcK);(case s3=>exact Kd.C_below HR.out.2.1 HW3.out.below);(case s4=>exact hcP);rintro e w5 ⟨rfl,hb5⟩;have HB5:=Aside0.mk hb5;clear hb5))
    go_roundg k1
    case measure=>have:=HX.out;omega
    case rel=>exact ⟨wrap64 (xi + 1),v',oE,⟨by rw [HWR.out];have:=HX.out;omega⟩,⟨by rw [HWR.out,HFT.out];exact HW3.out.step HB5.out⟩,⟨HF3.out.trans (Fr.of_below HB5.out _ _)⟩⟩
set_option maxHeartbeats 16000000 in
set_option maxRecDepth 100000 in
theorem start_calls {w:World} {AK AP:Option Addr} {cK cP:Nat} {lK lP:List Int}
  (hK:Kd.C (Kd.int .i64) w AK lK.length lK) (hcK:lK.length ≤ cK) (hP:Kd.C (Kd.int .i64) w AP lP.length lP) (hcP:lP.length ≤ cP) (hO:Ok lK lP) (hl:(startL lK lP).length < 17592186044416) :
  Calls Try.prog 29 #[.agg #[.slice AK lK.length cK,.slice AP lP.length cP]] w fun e w'=>∃ v0_:Value,e = .returned (v0_) ∧ Kd.R (Kd.int .i64) 3 w' w.heap.size (fun _=>True) v0_ (startL lK lP) ∧ Below w.heap.size w w':=by
 have hn:=hO.1
 have h24:=hO.2.2.2.2
 have hu24:=Try.underlying24
 have hu70:=Try.underlying70
 obtain ⟨k,hk⟩:=(Initial_f lK lP (-1) hn (by omega)).rounds
 obtain ⟨W1,hW1⟩:∃ W1:World,W1 = (w.alloc (.cells #[.slice AK lK.length cK,.slice AP lP.length cP] 24)).alloc (.cells #[.slice AK lK.length cK,.slice AP lP.length cP,.slice none 0 0,.slice none 0 0] 70):=⟨_,rfl⟩
 have hww:WW w W1 (w.heap.size + 1) (.slice AK lK.length cK) (.slice AP lP.length cP) (.slice none ([]:List Int).length 0) (.slice none 0 0) []:=by
  rw [hW1]
  exact ⟨((Below.refl w.heap.size w).alloc (Nat.le_refl _) _).alloc (by simp) _,by omega,by simpa using heap_alloc_new (w.alloc _) _,Kd.R_nil _ _ _ _ _⟩
 have hS:=in_solid (AQ:=none) (cQ:=0) (lQ:=[]) (g:=w.heap.size + 1) hK hcK hP hcP hO lK.length
 obtain ⟨x,hx⟩:∃ x,initial lK lP (-1) = x:=⟨_,rfl⟩
 have hsl:startL lK lP = if 0 ≤ x then inS lK lP lK.length x else []:=by unfold startL;rw [hx]
 have hcs:=initial_cases lK lP (-1)
 rw [hx] at hcs hk
 rw [hsl] at hl ⊢
 have HWW:=Aside0.mk hww
 have HW1:=Aside0.mk hW1
 have HK:=Aside0.mk hk
 have HR:=zk (And.intro hK hP)
 clear hww hW1 hk hx hsl hn
 by_cases hx0:0 ≤ x
 ·rw [if_pos hx0] at hl ⊢
  have hsol:x ∈ kids lP (-1) ∧ solidB (rd lK x) = true:=by
   rcases hcs with h|h
   ·omega
   ·exact h
  obtain ⟨x0,x1,_⟩:=hO.kid hsol.1
  have tx:decide (0 ≤ x) = true:=decide_eq_true hx0
  have hin:=fun w2 (hW:WW w w2 (w.heap.size + 1) (.slice AK lK.length cK) (.slice AP lP.length cP) (.slice none ([]:List Int).length 0) (.slice none 0 0) [])=>hS x x0 x1 (by omega) hsol.2 w2 (.slice none 0 0) [] hW (by simpa using hl)
  have HH:=Aside0.mk hin
  clear hin hS hsol hcs x0 x1 hl hx0 hO hK hP
  go_enter Try.func29,Try.ntmps29
  go_wp2_with (first|(go_at_call 30;rw [← HW1.out];(with_reducible refine (q18.calls k _ _ lK _ _ lP (-1) _ _ ?s1 ?s2 ?s3 ?s4 HK.out).mono ?_);(case s1=>exact Kd.C_below HR.out.1 HWW.out.below);(case s2=>exact hcK);(case s3=>exact Kd.C_below HR.out.2 HWW.out.below);(case s4=>exact hcP);rintro e w3 ⟨rfl,hb3⟩;have HB3:=Aside0.mk hb3;clear hb3)|(go_at_call 52;(with_reducible refine (HH.out w3 (HWW.out.step HB3.out)).mono ?_);rintro e w4 ⟨rfl,v4,hW4,hF4⟩;obtain ⟨Av,cv,ev⟩:=Kd.R_slice hW4.own;subst ev;have hd3:=(show w4.cell? ⟨w.heap.size + 1,3,none⟩ = some _ from (blk_cell hW4.blk 3).trans rfl);have HW4:=Aside0.mk hW4;clear hW4 hF4))
  go_ret
  exact ⟨_,rfl,by simpa using HW4.out.own,HW4.out.below⟩
 ·rw [if_neg hx0] at hl ⊢
  have tx:decide (0 ≤ x) = false:=decide_eq_false hx0
  clear hS hcs hl hx0 hO hK hP
  go_enter Try.func29,Try.ntmps29
  go_wp2_with (first|(go_at_call 30;rw [← HW1.out];(with_reducible refine (q18.calls k _ _ lK _ _ lP (-1) _ _ ?s1 ?s2 ?s3 ?s4 HK.out).mono ?_);(case s1=>exact Kd.C_below HR.out.1 HWW.out.below);(case s2=>exact hcK);(case s3=>exact Kd.C_below HR.out.2 HWW.out.below);(case s4=>exact hcP);rintro e w3 ⟨rfl,hb3⟩;have HW3:=zk (HWW.out.step hb3);have hd3:=(show w3.cell? ⟨w.heap.size + 1,3,none⟩ = some _ from (blk_cell HW3.out.blk 3).trans rfl);clear hb3))
  go_ret
  exact ⟨_,rfl,HW3.out.own,HW3.out.below⟩
end Go.Proofs.Ytnomeokicfpidaa.EW
namespace Go.Proofs.Ytnomeokicfpidaa.Q
open Go.RowKit Go.Proofs.YtnomeokicfpidaaW.PrintWords Go.Proofs.YtnomeokicfpidaaW.PrintLast Go.Proofs.YtnomeokicfpidaaW.PrintMore
attribute [local go_sem] max2_int min2_int max_two min_two max_three min_three max_four min_four
set_option linter.unusedVariables false
set_option linter.unusedSimpArgs false
def q24.f (l0_0 l0_1:List Int):Option (List Int):=if M.validB l0_0 l0_1 = true ∧ (EW.startL l0_0 l0_1).length < 17592186044416 then some (EW.startL l0_0 l0_1) else none
theorem q24.calls (A0_0:Option Addr) (c0_0:Nat) (l0_0:List Int) (A0_1:Option Addr) (c0_1:Nat) (l0_1:List Int) (r:List Int) (w:World) (hr0_0:Kd.C (Kd.int .i64) w A0_0 l0_0.length l0_0) (hc0_0:l0_0.length ≤ c0_0) (hr0_1:Kd.C (Kd.int .i64) w A0_1 l0_1.length l0_1) (hc0_1:l0_1.length ≤ c0_1) (h:q24.f l0_0 l0_1 = some r) :
  Calls Try.prog 29 #[.agg #[.slice A0_0 l0_0.length c0_0,.slice A0_1 l0_1.length c0_1]] w fun e w'=>∃ v0_:Value,e = .returned (v0_) ∧ Kd.R (Kd.int .i64) 3 w' w.heap.size (fun _=>True) v0_ r ∧ Below w.heap.size w w':=by
 unfold q24.f at h
 by_cases c:M.validB l0_0 l0_1 = true ∧ (EW.startL l0_0 l0_1).length < 17592186044416
 ·rw [if_pos c] at h
  obtain rfl:=Option.some.inj h
  exact EW.start_calls hr0_0 hc0_0 hr0_1 hc0_1 (M.Ok.of_valid c.1) c.2
 ·rw [if_neg c] at h;exact absurd h (by simp)
def q5.l0:Nat → List Int → List Int → Int → Option (Bool)
 | 0,_,_,_=>none
 | k + 1,x0,x1,x5=>if x5 < (x0.length:Int) then (if 0 ≤ x5 then (if x5 < (x1.length:Int) then (if (rd x0 x5) = (rd x1 x5) then (q5.l0 k x0 x1 (wrap64 (x5 + 1))) else (some false)) else (none)) else (none)) else (some true)
def q5.f (k:Nat) (l0:List Int) (l1:List Int):Option (Bool):=if (l0.length:Int) = (l1.length:Int) then (q5.l0 k l0 l1 0) else (some false)
theorem q5.mono_l:∀ k,(∀ y0 y1 y2,LeO (q5.l0 k y0 y1 y2) (q5.l0 (k + 1) y0 y1 y2))
 | 0=>fun _ _ _ r h=>by simp [q5.l0] at h
 | k + 1=>by
  have ih0:=q5.mono_l k
  ·intro y0 y1 y2
   unfold q5.l0
   repeat' first
   | (with_reducible exact ih0 _ _ _)
   | (with_reducible exact LeO.refl _)
   | (with_reducible exact LeO.none _)
   | (with_reducible refine LeO.ite ?_ ?_)
   | (with_reducible refine LeO.bind ?_ (fun _=>?_))
   | exact ih0 _ _ _
   | exact LeO.none _
   | refine LeO.ite ?_ ?_
   | refine LeO.bind ?_ (fun _=>?_)
theorem q5.mono:∀ a0 a1 k,LeO (q5.f k a0 a1) (q5.f (k + 1) a0 a1):=by
 intro a0 a1 k
 have ih0:=q5.mono_l k
 unfold q5.f
 repeat' first
   | (with_reducible exact ih0 _ _ _)
   | (with_reducible exact LeO.refl _)
   | (with_reducible exact LeO.none _)
   | (with_reducible refine LeO.ite ?_ ?_)
   | (with_reducible refine LeO.bind ?_ (fun _=>?_))
   | exact ih0 _ _ _
   | exact LeO.none _
   | refine LeO.ite ?_ ?_
   | refine LeO.bind ?_ (fun _=>?_)
set_option maxHeartbeats 8000000 in
set_option maxRecDepth 100000 in
theorem q5.calls (k:Nat) (A0:Option Addr) (c0:Nat) (l0:List Int) (A1:Option Addr) (c1:Nat) (l1:List Int) (r:Bool) (w:World) (hr0:Kd.C (Kd.int .i64) w A0 l0.length l0) (hc0:l0.length ≤ c0) (hr1:Kd.C (Kd.int .i64) w A1 l1.length l1) (hc1:l1.length ≤ c1) (h:q5.f k l0 l1 = some r) :
  Calls Try.prog 32 #[.slice A0 l0.length c0,.slice A1 l1.length c1] w fun e w'=>e = .returned (.bool r) ∧ Drawn0 w w':=by
 have HR0:=Aside0.mk hr0
 have HC0:=Aside0.mk hc0
 clear hr0 hc0
 have HR1:=Aside0.mk hr1
 have HC1:=Aside0.mk hc1
 clear hr1 hc1
 have H:(if (l0.length:Int) = (l1.length:Int) then (q5.l0 k l0 l1 0) else (some false)) = some r:=h
 clear h
 by_cases c3:(l0.length:Int) = (l1.length:Int)
 ·rw [if_pos c3] at H
  have c3b0:((l0.length:Int) == (l1.length:Int)) = true:=beq_iff_eq.mpr c3
  have c3b1:((l0.length:Int) != (l1.length:Int)) = false:=bne_eq_false_iff_eq.mpr c3
  have c3b2:(l0.length == l1.length) = true:=by first|simpa using c3|(simp at c3 ⊢;omega)
  clear c3
  have H':=Aside0.mk H
  clear H
  go_enter Try.func32,Try.ntmps32
  go_wp2
  repeat (go_quiet (fail);try go_wp2)
  go_loopg [5] k (fun kq v5 w'=>∃ (x5_1:Int),v5 = .int .i64 x5_1 ∧ Aside0 (q5.l0 kq l0 l1 x5_1 = some r) ∧ Aside0 (kq ≤ k) ∧ Drawn0 w w')
  case atStart=>exact ⟨(0),oE,H',⟨Nat.le_refl _⟩,by repeat (first|exact Drawn0.refl _|apply Drawn0.step)⟩
  case round =>
   clear H'
   try clear c1
   try clear p2
   try clear c3
   try clear c3b0
   try clear c3b1
   try clear c3b2
   obtain ⟨x5_1,rfl,HA,HK1,⟨m1,rfl⟩⟩:=hrel
   cases gk with
   | zero=>exact absurd HA.out (by simp [q5.l0])
   | succ k1 =>
    have H:=HA.out
    clear HA
    simp only [q5.l0] at H
    by_cases c4:x5_1 < (l0.length:Int)
    ·rw [if_pos c4] at H
     have c4b0:decide (x5_1 < (l0.length:Int)) = true:=decide_eq_true c4
     clear c4
     by_cases c5:0 ≤ x5_1
     ·rw [if_pos c5] at H
      have c5b0:decide (0 ≤ x5_1) = true:=decide_eq_true c5
      clear c5
      by_cases c6:x5_1 < (l1.length:Int)
      ·rw [if_pos c6] at H
       have c6b0:decide (x5_1 < (l1.length:Int)) = true:=decide_eq_true c6
       clear c6
       by_cases c7:(rd l0 x5_1) = (rd l1 x5_1)
       ·rw [if_pos c7] at H
        have c7b0:((rd l0 x5_1) == (rd l1 x5_1)) = true:=beq_iff_eq.mpr c7
        have c7b1:((rd l0 x5_1) != (rd l1 x5_1)) = false:=bne_eq_false_iff_eq.mpr c7
        clear c7
        have H':=Aside0.mk H
        clear H
        have p101:0 ≤ (x5_1:Int):=oA
        have q101:x5_1 < (l0.length:Int):=oA
        obtain ⟨ad101,e101,hx101_0⟩:=Kd.at_int HR0.out x5_1 p101 q101
        cases e101
        replace p101:=eq_true p101
        replace q101:=eq_true q101
        have p102:0 ≤ (x5_1:Int):=oA
        have q102:x5_1 < (l1.length:Int):=oA
        obtain ⟨ad102,e102,hx102_0⟩:=Kd.at_int HR1.out x5_1 p102 q102
        cases e102
        replace p102:=eq_true p102
        replace q102:=eq_true q102
        go_wp2
        repeat (go_quiet (fail);try go_wp2)
        go_roundg k1
        case measure=>have:=HK1.out;omega
        case rel=>exact ⟨(wrap64 (x5_1 + 1)),oE,H',⟨by have:=HK1.out;omega⟩,by repeat (first|exact Drawn0.refl _|apply Drawn0.step)⟩
       ·rw [if_neg c7] at H
        have c7b0:((rd l0 x5_1) == (rd l1 x5_1)) = false:=beq_eq_false_iff_ne.mpr c7
        have c7b1:((rd l0 x5_1) != (rd l1 x5_1)) = true:=bne_iff_ne.mpr c7
        obtain rfl:=Option.some.inj H
        have p101:0 ≤ (x5_1:Int):=oA
        have q101:x5_1 < (l0.length:Int):=oA
        obtain ⟨ad101,e101,hx101_0⟩:=Kd.at_int HR0.out x5_1 p101 q101
        cases e101
        replace p101:=eq_true p101
        replace q101:=eq_true q101
        have p102:0 ≤ (x5_1:Int):=oA
        have q102:x5_1 < (l1.length:Int):=oA
        obtain ⟨ad102,e102,hx102_0⟩:=Kd.at_int HR1.out x5_1 p102 q102
        cases e102
        replace p102:=eq_true p102
        replace q102:=eq_true q102
        go_wp2
        repeat (go_quiet (fail);try go_wp2)
        go_ret
        exact ⟨by first|rfl|(simp;done)|(simp [*];done),by repeat (first|exact Drawn0.refl _|apply Drawn0.step)⟩
      ·rw [if_neg c6] at H
       exact absurd H (by simp)
     ·rw [if_neg c5] at H
      exact absurd H (by simp)
    ·rw [if_neg c4] at H
     have c4b0:decide (x5_1 < (l0.length:Int)) = false:=decide_eq_false c4
     clear c4
     obtain rfl:=Option.some.inj H
     go_wp2
     repeat (go_quiet (fail);try go_wp2)
     go_ret
     exact ⟨by first|rfl|(simp;done)|(simp [*];done),by repeat (first|exact Drawn0.refl _|apply Drawn0.step)⟩
 ·rw [if_neg c3] at H
  have c3b0:((l0.length:Int) == (l1.length:Int)) = false:=beq_eq_false_iff_ne.mpr c3
  have c3b1:((l0.length:Int) != (l1.length:Int)) = true:=bne_iff_ne.mpr c3
  have c3b2:(l0.length == l1.length) = false:=by first|simpa using c3|(simp at c3 ⊢;omega)
  obtain rfl:=Option.some.inj H
  go_enter Try.func32,Try.ntmps32
  go_wp2
  repeat (go_quiet (fail);try go_wp2)
  go_ret
  exact ⟨by first|rfl|(simp;done)|(simp [*];done),by repeat (first|exact Drawn0.refl _|apply Drawn0.step)⟩
def q9.f (k:Nat)  : Option (Bool):=(q24.f (([1]:List Int)) (([(-1)]:List Int))).bind fun t107=>((q5.f k t107 (([0]:List Int))).bind fun t113=>(some t113))
theorem q9.mono:∀ k,LeO (q9.f k ) (q9.f (k + 1) ):=by
 intro  k
 unfold q9.f
 repeat' first
   | (with_reducible exact q5.mono _ _ _)
   | (with_reducible exact LeO.refl _)
   | (with_reducible exact LeO.none _)
   | (with_reducible refine LeO.ite ?_ ?_)
   | (with_reducible refine LeO.bind ?_ (fun _=>?_))
   | exact q5.mono _ _ _
   | exact LeO.none _
   | refine LeO.ite ?_ ?_
   | refine LeO.bind ?_ (fun _=>?_)
set_option maxHeartbeats 8000000 in
set_option maxRecDepth 100000 in
theorem q9.calls (k:Nat)  (r:Bool) (w:World) (h:q9.f k  = some r) :
  Calls Try.prog 28 #[] w fun e w'=>e = .returned (.bool r) ∧ Below w.heap.size w w':=by
 have hu24:=Try.underlying24
 have HB:=zk (Below.refl w.heap.size w)
 have H:((q24.f (([1]:List Int)) (([(-1)]:List Int))).bind fun t107=>((q5.f k t107 (([0]:List Int))).bind fun t113=>(some t113))) = some r:=h
 clear h
 obtain ⟨y101,hy101⟩:∃ y_:List Int,y_ = (([1]:List Int)):=⟨_,rfl⟩
 replace H:((q24.f y101 (([(-1)]:List Int))).bind fun t107=>((q5.f k t107 (([0]:List Int))).bind fun t113=>(some t113))) = some r:=by first|(rw [hy101];with_reducible exact H)|(have H2_:=(Option.bind_some _ _).symm.trans H;rw [hy101];with_reducible exact H2_)|(have H2_:=(Option.bind_some _ _).symm.trans H;with_reducible exact H2_)|with_reducible exact H|(rw [hy101];exact H)|exact H
 have Ny101:=Aside0.mk hy101
 clear hy101
 obtain ⟨y104,hy104⟩:∃ y_:List Int,y_ = (([(-1)]:List Int)):=⟨_,rfl⟩
 replace H:((q24.f y101 y104).bind fun t107=>((q5.f k t107 (([0]:List Int))).bind fun t113=>(some t113))) = some r:=by first|(rw [hy104];with_reducible exact H)|(have H2_:=(Option.bind_some _ _).symm.trans H;rw [hy104];with_reducible exact H2_)|(have H2_:=(Option.bind_some _ _).symm.trans H;with_reducible exact H2_)|with_reducible exact H|(rw [hy104];exact H)|exact H
 have Ny104:=Aside0.mk hy104
 clear hy104
 replace H:=Option.bind_eq_some_iff.mp H
 obtain ⟨t107,A10,H⟩:=H
 replace H:((q5.f k t107 (([0]:List Int))).bind fun t113=>(some t113)) = some r:=H
 have A1:=Aside0.mk A10
 clear A10
 obtain ⟨y110,hy110⟩:∃ y_:List Int,y_ = (([0]:List Int)):=⟨_,rfl⟩
 replace H:((q5.f k t107 y110).bind fun t113=>(some t113)) = some r:=by first|(rw [hy110];with_reducible exact H)|(have H2_:=(Option.bind_some _ _).symm.trans H;rw [hy110];with_reducible exact H2_)|(have H2_:=(Option.bind_some _ _).symm.trans H;with_reducible exact H2_)|with_reducible exact H|(rw [hy110];exact H)|exact H
 have Ny110:=Aside0.mk hy110
 clear hy110
 replace H:=Option.bind_eq_some_iff.mp H
 obtain ⟨t113,A20,H⟩:=H
 replace H:(some t113) = some r:=H
 have A2:=Aside0.mk A20
 clear A20
 obtain rfl:=Option.some.inj H
 go_enter Try.func28,Try.ntmps28
 go_wp2_with (first|((with_reducible refine gate_dst (N:=1) rfl ?_);refine Kd.R_lit (Kd.int .i64) _ 3 ?hg (N:=1) ?hd (xs:=([1]:List Int)) (inner:=[.int .i64 1]) (ok:=fun _=>True) (okp:=fun _=>True) ?hr ?hp (fun _ hk=>hk) trivial (Below.refl _ _) (Nat.le_refl _) (by simp) ?_;(case hd=>rfl);(case hg=>rfl);(case hr=>first|(go_simp;done)|(go_simp;rfl));(case hp=>exact (Reps.one (show Kd.M (Kd.int .i64) _ _ _ 1 [.int .i64 1] from rfl) (Reps.none _ _)));intro v102 w3 ho4 hb hg_ hnew_;clear hg_ hnew_;(first|rw [← Ny101.out] at ho4|(simp only [Int.reduceToNat] at ho4;rw [← Ny101.out] at ho4));have n0_:=zk (Kd.R_lower ho4 (below_size (bq HB.out)));have n1_:=zk (below_step (bq HB.out) hb);clear HB;have HO103:=n0_;have HB:=n1_;clear n0_ n1_;clear hb ho4)|((with_reducible refine gate_dst (N:=2) rfl ?_);refine Kd.R_lit (Kd.int .i64) _ 3 ?hg (N:=2) ?hd (xs:=([(-1)]:List Int)) (inner:=[.int .i64 (-1)]) (ok:=fun _=>True) (okp:=fun _=>True) ?hr ?hp (fun _ hk=>hk) trivial (Below.refl _ _) (Nat.le_refl _) (by simp) ?_;(case hd=>rfl);(case hg=>rfl);(case hr=>first|(go_simp;done)|(go_simp;rfl));(case hp=>exact (Reps.one (show Kd.M (Kd.int .i64) _ _ _ (-1) [.int .i64 (-1)] from rfl) (Reps.none _ _)));intro v105 w5 ho6 hb hg_ hnew_;clear hg_ hnew_;(first|rw [← Ny104.out] at ho6|(simp only [Int.reduceToNat] at ho6;rw [← Ny104.out] at ho6));have n0_:=zk (Kd.R_elder' (rq HO103.out) (Kd.R_base ho6) hb);have n1_:=zk (Kd.R_lower (Kd.R_new' ho6 (Kd.R_lt (rq HO103.out))) (below_size (bq HB.out)));have n2_:=zk (below_step (bq HB.out) hb);clear HO103;clear HB;have HO103:=n0_;have HO106:=n1_;have HB:=n2_;clear n0_ n1_ n2_;clear hb ho6;obtain ⟨Ao7,co7,eo7⟩:=Kd.R_slice HO106.out;subst eo7;obtain ⟨Ao8,co8,eo8⟩:=Kd.R_slice HO103.out;subst eo8)|((with_reducible refine gate_callee (f:=29) rfl ?_);refine goesL_ (some 4) rfl rfl Try.func29 (by kernel_rfl) rfl #[.agg #[.slice Ao8 y101.length co8,.slice Ao7 y104.length co7]] rfl oF ?_;(with_reducible refine (q24.calls _ _ y101 _ _ y104 t107 _ ?side1 ?side2 ?side3 ?side4 A1.out).mono ?_);(case side1=>exact cq ((Kd.R_reads' HO103.out).2.2));(case side2=>exact (Kd.R_reads' HO103.out).2.1);(case side3=>exact cq ((Kd.R_reads' HO106.out).2.2));(case side4=>exact (Kd.R_reads' HO106.out).2.1);rintro e w9 ⟨v108,rfl,ho0,hb⟩;refine ⟨_,rfl,?_⟩;have n0_:=zk (Kd.R_elder' (rq HO103.out) (Kd.R_base ho0) hb);have n1_:=zk (Kd.R_elder' (rq HO106.out) (Kd.R_base ho0) hb);have n2_:=zk (Kd.R_lower (Kd.R_new' (Kd.R_new' ho0 (Kd.R_lt (rq HO103.out))) (Kd.R_lt (rq HO106.out))) (below_size (bq HB.out)));have n3_:=zk (below_step (bq HB.out) hb);clear HO103;clear HO106;clear HB;have HO103:=n0_;have HO106:=n1_;have HO109:=n2_;have HB:=n3_;clear n0_ n1_ n2_ n3_;(try clear hb);(try clear hb2);(try clear hk);(try clear hi);(try clear ho0))|((with_reducible refine gate_dst (N:=5) rfl ?_);refine Kd.R_lit (Kd.int .i64) _ 3 ?hg (N:=5) ?hd (xs:=([0]:List Int)) (inner:=[.int .i64 0]) (ok:=fun _=>True) (okp:=fun _=>True) ?hr ?hp (fun _ hk=>hk) trivial (Below.refl _ _) (Nat.le_refl _) (by simp) ?_;(case hd=>rfl);(case hg=>rfl);(case hr=>first|(go_simp;done)|(go_simp;rfl));(case hp=>exact (Reps.one (show Kd.M (Kd.int .i64) _ _ _ 0 [.int .i64 0] from rfl) (Reps.none _ _)));intro v111 w10 ho11 hb hg_ hnew_;clear hg_ hnew_;(first|rw [← Ny110.out] at ho11|(simp only [Int.reduceToNat] at ho11;rw [← Ny110.out] at ho11));have n0_:=zk (Kd.R_elder' (rq HO103.out) (Kd.R_base ho11) hb);have n1_:=zk (Kd.R_elder' (rq HO106.out) (Kd.R_base ho11) hb);have n2_:=zk (Kd.R_elder' (rq HO109.out) (Kd.R_base ho11) hb);have n3_:=zk (Kd.R_lower (Kd.R_new' (Kd.R_new' (Kd.R_new' ho11 (Kd.R_lt (rq HO103.out))) (Kd.R_lt (rq HO106.out))) (Kd.R_lt (rq HO109.out))) (below_size (bq HB.out)));have n4_:=zk (below_step (bq HB.out) hb);clear HO103;clear HO106;clear HO109;clear HB;have HO103:=n0_;have HO106:=n1_;have HO109:=n2_;have HO112:=n3_;have HB:=n4_;clear n0_ n1_ n2_ n3_ n4_;clear hb ho11;obtain ⟨Ao12,co12,eo12⟩:=Kd.R_slice HO109.out;subst eo12;obtain ⟨Ao13,co13,eo13⟩:=Kd.R_slice HO112.out;subst eo13)|((with_reducible refine gate_callee (f:=32) rfl ?_);refine goesL_ (some 6) rfl rfl Try.func32 (by kernel_rfl) rfl #[.slice Ao12 t107.length co12,.slice Ao13 y110.length co13] rfl oF ?_;(with_reducible refine (q5.calls k _ _ t107 _ _ y110 t113 _ ?side1 ?side2 ?side3 ?side4 A2.out).mono ?_);(case side1=>exact cq ((Kd.R_reads' HO109.out).2.2));(case side2=>exact (Kd.R_reads' HO109.out).2.1);(case side3=>exact cq ((Kd.R_reads' HO112.out).2.2));(case side4=>exact (Kd.R_reads' HO112.out).2.1);rintro e w' ⟨rfl,⟨nd,rfl⟩⟩;refine ⟨_,rfl,?_⟩))
 go_ret
 exact ⟨by first|rfl|(simp [errW_none,errW_some] <;> rfl)|(simp [*,errW_none,errW_some] <;> rfl),bq HB.out⟩
mutual
def q19.j0:Nat → Int → Int → Bool → List Int → List Int → Option (Int)
 | 0,_,_,_,_,_=>none
 | k + 1,x1,x2,x17,x102000,x102001=>if x17 = true then (some (-1)) else (if 0 ≤ x1 then (if x1 < (x102001.length:Int) then (q19.l0 k x2 (rd x102001 x1) x102000 x102001) else (none)) else (none))
def q19.l0:Nat → Int → Int → List Int → List Int → Option (Int)
 | 0,_,_,_,_=>none
 | k + 1,x2,x7,x102000,x102001=>if x7 = (-1) then (some x7) else (if 0 ≤ x7 then (if x7 < (x102000.length:Int) then (if (rd x102000 x7) = 1 then (if x7 = x2 then (if x7 < (x102001.length:Int) then (q19.l0 k x2 (rd x102001 x7) x102000 x102001) else (none)) else ((q27.f k x102000 x102001 x2 x7).bind fun t107=>(if t107 = true then (some x7) else (if x7 < (x102001.length:Int) then (q19.l0 k x2 (rd x102001 x7) x102000 x102001) else (none))))) else (if x7 < (x102001.length:Int) then (q19.l0 k x2 (rd x102001 x7) x102000 x102001) else (none))) else (none)) else (none))
end
def q19.f (k:Nat) (l0_0:List Int) (l0_1:List Int) (a1:Int) (a2:Int):Option (Int):=(q16.f l0_0 l0_1 a1).bind fun t102=>(if t102 = true then ((q16.f l0_0 l0_1 a2).bind fun t103=>(q19.j0 k a1 a2 (!t103) l0_0 l0_1)) else (q19.j0 k a1 a2 true l0_0 l0_1))
set_option maxHeartbeats 8000000 in
set_option maxRecDepth 100000 in
theorem q19.calls (k:Nat) (A0_0:Option Addr) (c0_0:Nat) (l0_0:List Int) (A0_1:Option Addr) (c0_1:Nat) (l0_1:List Int) (a1:Int) (a2:Int) (r:Int) (w:World) (hr0_0:Kd.C (Kd.int .i64) w A0_0 l0_0.length l0_0) (hc0_0:l0_0.length ≤ c0_0) (hr0_1:Kd.C (Kd.int .i64) w A0_1 l0_1.length l0_1) (hc0_1:l0_1.length ≤ c0_1) (h:q19.f k l0_0 l0_1 a1 a2 = some r) :
  Calls Try.prog 31 #[.agg #[.slice A0_0 l0_0.length c0_0,.slice A0_1 l0_1.length c0_1],.int .i64 a1,.int .i64 a2] w fun e w'=>e = .returned (.int .i64 r) ∧ Below w.heap.size w w':=by
 have hu24:=Try.underlying24
 have HR0_0:=Aside0.mk hr0_0
 have HC0_0:=Aside0.mk hc0_0
 clear hr0_0 hc0_0
 have HR0_1:=Aside0.mk hr0_1
 have HC0_1:=Aside0.mk hc0_1
 clear hr0_1 hc0_1
 have HB:=zk (Below.refl w.heap.size w)
 have H:((q16.f l0_0 l0_1 a1).bind fun t102=>(if t102 = true then ((q16.f l0_0 l0_1 a2).bind fun t103=>(q19.j0 k a1 a2 (!t103) l0_0 l0_1)) else (q19.j0 k a1 a2 true l0_0 l0_1))) = some r:=h
 clear h
 have HC4:=Aside0.mk H
 clear H
 go_enter Try.func31,Try.ntmps31
 go_upto_region 1 with (first|((with_reducible refine gate_dst (N:=3) rfl ?_);refine box_event ?hg (N:=3) ?hd (cs:=#[.slice A0_0 l0_0.length c0_0,.slice A0_1 l0_1.length c0_1]) (t:=24) ?hr ?_;(case hd=>rfl);(case hg=>rfl);(case hr=>first|(go_simp;done)|(go_simp;rfl));intro gb101 hg w5 hbox hb;have n0_:=zk (below_step (bq HB.out) hb);have n1_:=zk (hbox);have n2_:=zk ((by rw [hg];exact (below_size (bq HB.out)):w.heap.size ≤ gb101));have n3_:=zk ((by rw [hg];exact (below_size (bq HB.out)):w.heap.size ≤ gb101));clear HB;have HB:=n0_;have BK101:=n1_;have GW101:=n2_;have GE101:=n3_;clear n0_ n1_ n2_ n3_;clear hb hbox hg))
 (try simp only [Act.put,List.setIfInBounds_toArray,List.set_cons_zero,List.set_cons_succ])
 go_cut [17] (fun v17 wc=>∃ (kq:Nat) (x17_3:Bool),v17 = .bool x17_3 ∧ Aside0 (q19.j0 kq a1 a2 x17_3 l0_0 l0_1 = some r) ∧ Aside0 (kq ≤ k) ∧ Aside0 (wc.heap[gb101]? = some (.cells #[(.slice A0_0 l0_0.length c0_0),(.slice A0_1 l0_1.length c0_1)] 24 (0,0))) ∧ Aside0 (Below w.heap.size w wc))
 case first =>
  have H:=HC4.out
  clear HC4
  replace H:=Option.bind_eq_some_iff.mp H
  obtain ⟨t102,A60,H⟩:=H
  replace H:(if t102 = true then ((q16.f l0_0 l0_1 a2).bind fun t103=>(q19.j0 k a1 a2 (!t103) l0_0 l0_1)) else (q19.j0 k a1 a2 true l0_0 l0_1)) = some r:=H
  have A6:=Aside0.mk A60
  clear A60
  by_cases c7:t102 = true
  ·subst c7
   have H1:((q16.f l0_0 l0_1 a2).bind fun t103=>(q19.j0 k a1 a2 (!t103) l0_0 l0_1)) = some r:=by rw [if_pos rfl] at H;exact H
   clear H
   have H:=H1
   clear H1
   replace H:=Option.bind_eq_some_iff.mp H
   obtain ⟨t103,A80,H⟩:=H
   replace H:(q19.j0 k a1 a2 (!t103) l0_0 l0_1) = some r:=H
   have A8:=Aside0.mk A80
   clear A80
   have H':=Aside0.mk H
   clear H
   have hcz9_0:w5.cell? ⟨gb101,0,none⟩ = some (.slice A0_0 l0_0.length c0_0):=(blk_cell BK101.out 0).trans rfl
   have hcz9_1:w5.cell? ⟨gb101,1,none⟩ = some (.slice A0_1 l0_1.length c0_1):=(blk_cell BK101.out 1).trans rfl
   have hfz9_0:=blk_frozen BK101.out 0
   have hfz9_1:=blk_frozen BK101.out 1
   go_wp2_with (first|((with_reducible refine gate_callee (f:=51) rfl ?_);refine goesL_ (some 10) rfl rfl Try.func51 (by kernel_rfl) rfl #[.agg #[.slice A0_0 l0_0.length c0_0,.slice A0_1 l0_1.length c0_1],.int .i64 a1] rfl oF ?_;(with_reducible refine (q16.calls _ _ l0_0 _ _ l0_1 a1 true _ ?side1 ?side2 ?side3 ?side4 A6.out).mono ?_);(case side1=>exact cq (Kd.C_below HR0_0.out HB.out));(case side2=>exact HC0_0.out);(case side3=>exact cq (Kd.C_below HR0_1.out HB.out));(case side4=>exact HC0_1.out);rintro e w10 ⟨rfl,hb⟩;refine ⟨_,rfl,?_⟩;have n0_:=zk (blk_below (g:=gb101) (o:=.cells #[.slice A0_0 l0_0.length c0_0,.slice A0_1 l0_1.length c0_1] 24 (0,0)) (hq BK101.out) hb);have n1_:=zk (below_step (bg HB.out GE101 GE101) hb);clear BK101;clear HB;have BK101:=n0_;have HB:=n1_;clear n0_ n1_;(try clear hb);(try clear hb2);(try clear hk);(try clear hi);have hcz11_0:w10.cell? ⟨gb101,0,none⟩ = some (.slice A0_0 l0_0.length c0_0):=(blk_cell BK101.out 0).trans rfl;have hcz11_1:w10.cell? ⟨gb101,1,none⟩ = some (.slice A0_1 l0_1.length c0_1):=(blk_cell BK101.out 1).trans rfl;have hfz11_0:=blk_frozen BK101.out 0;have hfz11_1:=blk_frozen BK101.out 1)|(go_at_call 51;(with_reducible refine (q16.calls _ _ l0_0 _ _ l0_1 a2 t103 _ ?side1 ?side2 ?side3 ?side4 A8.out).mono ?_);(case side1=>exact cq (Kd.C_below HR0_0.out HB.out));(case side2=>exact HC0_0.out);(case side3=>exact cq (Kd.C_below HR0_1.out HB.out));(case side4=>exact HC0_1.out);rintro e w12 ⟨rfl,hb⟩;have n0_:=zk (blk_below (g:=gb101) (o:=.cells #[.slice A0_0 l0_0.length c0_0,.slice A0_1 l0_1.length c0_1] 24 (0,0)) (hq BK101.out) hb);have n1_:=zk (below_step (bg HB.out GE101 GE101) hb);clear BK101;clear HB;have BK101:=n0_;have HB:=n1_;clear n0_ n1_;(try clear hb);(try clear hb2);(try clear hk);(try clear hi)))
   go_meet
   case rel=>exact ⟨_,(!t103),oE,H',⟨by first|omega|exact Nat.le_refl _⟩,⟨hq BK101.out⟩,⟨bg HB.out GE101 GE101⟩⟩
  ·replace c7:=Bool.eq_false_iff.mpr c7
   subst c7
   have H1:(q19.j0 k a1 a2 true l0_0 l0_1) = some r:=by rw [if_neg (show ¬ (false = true) by decide)] at H;exact H
   clear H
   have H:=H1
   clear H1
   have H':=Aside0.mk H
   clear H
   have hcz13_0:w5.cell? ⟨gb101,0,none⟩ = some (.slice A0_0 l0_0.length c0_0):=(blk_cell BK101.out 0).trans rfl
   have hcz13_1:w5.cell? ⟨gb101,1,none⟩ = some (.slice A0_1 l0_1.length c0_1):=(blk_cell BK101.out 1).trans rfl
   have hfz13_0:=blk_frozen BK101.out 0
   have hfz13_1:=blk_frozen BK101.out 1
   go_wp2_with (first|((with_reducible refine gate_callee (f:=51) rfl ?_);refine goesL_ (some 10) rfl rfl Try.func51 (by kernel_rfl) rfl #[.agg #[.slice A0_0 l0_0.length c0_0,.slice A0_1 l0_1.length c0_1],.int .i64 a1] rfl oF ?_;(with_reducible refine (q16.calls _ _ l0_0 _ _ l0_1 a1 false _ ?side1 ?side2 ?side3 ?side4 A6.out).mono ?_);(case side1=>exact cq (Kd.C_below HR0_0.out HB.out));(case side2=>exact HC0_0.out);(case side3=>exact cq (Kd.C_below HR0_1.out HB.out));(case side4=>exact HC0_1.out);rintro e w14 ⟨rfl,hb⟩;refine ⟨_,rfl,?_⟩;have n0_:=zk (blk_below (g:=gb101) (o:=.cells #[.slice A0_0 l0_0.length c0_0,.slice A0_1 l0_1.length c0_1] 24 (0,0)) (hq BK101.out) hb);have n1_:=zk (below_step (bg HB.out GE101 GE101) hb);clear BK101;clear HB;have BK101:=n0_;have HB:=n1_;clear n0_ n1_;(try clear hb);(try clear hb2);(try clear hk);(try clear hi)))
   go_meet
   case rel=>exact ⟨_,(true),oE,H',⟨by first|omega|exact Nat.le_refl _⟩,⟨hq BK101.out⟩,⟨bg HB.out GE101 GE101⟩⟩
 case rest =>
  clear HC4
  try clear p2
  try clear c3
  try clear c5
  try clear c7
  try clear hcz11_0
  try clear hcz11_1
  try clear hcz13_0
  try clear hcz13_1
  try clear hcz9_0
  try clear hcz9_1
  try clear hfz11_0
  try clear hfz11_1
  try clear hfz13_0
  try clear hfz13_1
  try clear hfz9_0
  try clear hfz9_1
  obtain ⟨kq,x17_3,rfl,HA,HJ3,BK101,HB⟩:=hcut
  cases kq with
  | zero=>exact absurd HA.out (by simp [q19.j0])
  | succ kj3 =>
   have H:=HA.out
   clear HA
   simp only [q19.j0] at H
   by_cases c15:x17_3 = true
   ·subst c15
    have H1:(some (-1)) = some r:=by rw [if_pos rfl] at H;exact H
    clear H
    have H:=H1
    clear H1
    obtain rfl:=Option.some.inj H
    go_wp2
    go_ret
    exact ⟨by first|rfl|(simp [errW_none,errW_some] <;> rfl)|(simp [*,errW_none,errW_some] <;> rfl),bg HB.out GE101 GE101⟩
   ·replace c15:=Bool.eq_false_iff.mpr c15
    subst c15
    have H1:(if 0 ≤ a1 then (if a1 < (l0_1.length:Int) then (q19.l0 kj3 a2 (rd l0_1 a1) l0_0 l0_1) else (none)) else (none)) = some r:=by rw [if_neg (show ¬ (false = true) by decide)] at H;exact H
    clear H
    have H:=H1
    clear H1
    by_cases c16:0 ≤ a1
    ·rw [if_pos c16] at H
     have c16b0:decide (0 ≤ a1) = true:=decide_eq_true c16
     clear c16
     by_cases c17:a1 < (l0_1.length:Int)
     ·rw [if_pos c17] at H
      have c17b0:decide (a1 < (l0_1.length:Int)) = true:=decide_eq_true c17
      clear c17
      have H':=Aside0.mk H
      clear H
      have hcz18_0:wc.cell? ⟨gb101,0,none⟩ = some (.slice A0_0 l0_0.length c0_0):=(blk_cell BK101.out 0).trans rfl
      have hcz18_1:wc.cell? ⟨gb101,1,none⟩ = some (.slice A0_1 l0_1.length c0_1):=(blk_cell BK101.out 1).trans rfl
      have hfz18_0:=blk_frozen BK101.out 0
      have hfz18_1:=blk_frozen BK101.out 1
      have p104:0 ≤ (a1:Int):=oA
      have q104:a1 < (l0_1.length:Int):=oA
      obtain ⟨ad104,e104,hx104_0⟩:=Kd.at_int HR0_1.out a1 p104 q104
      cases e104
      replace hx104_0:=(HB.out.cell (World.block_lt_of_cell? w _ hx104_0)).trans hx104_0
      replace p104:=eq_true p104
      replace q104:=eq_true q104
      go_wp2
      go_loopg [7] kj3 (fun kq v7 w'=>∃ (x7_2:Int),v7 = .int .i64 x7_2 ∧ Aside0 (q19.l0 kq a2 x7_2 l0_0 l0_1 = some r) ∧ Aside0 (kq ≤ kj3) ∧ Aside0 (w'.heap[gb101]? = some (.cells #[(.slice A0_0 l0_0.length c0_0),(.slice (some ad104) l0_1.length c0_1)] 24 (0,0))) ∧ Aside0 (Below w.heap.size w w'))
      case atStart=>exact ⟨(rd l0_1 a1),oE,H',⟨Nat.le_refl _⟩,⟨hq BK101.out⟩,⟨bg HB.out GE101 GE101⟩⟩
      case round =>
       clear H'
       try clear c1
       try clear p1
       try clear q1
       try clear hx1
       try clear p2
       try clear c3
       try clear c5
       try clear c7
       try clear p10
       try clear q10
       try clear hx10
       try clear c15
       try clear c16
       try clear c16b0
       try clear c17
       try clear c17b0
       try clear hcz11_0
       try clear hcz11_1
       try clear hcz13_0
       try clear hcz13_1
       try clear hcz18_0
       try clear hcz18_1
       try clear hcz9_0
       try clear hcz9_1
       try clear hfz11_0
       try clear hfz11_1
       try clear hfz13_0
       try clear hfz13_1
       try clear hfz18_0
       try clear hfz18_1
       try clear hfz9_0
       try clear hfz9_1
       try clear hx104_0
       try clear p104
       try clear p2
       try clear q104
       obtain ⟨x7_2,rfl,HA,HK2,BK101,HB⟩:=hrel
       cases gk with
       | zero=>exact absurd HA.out (by simp [q19.l0])
       | succ k2 =>
        have H:=HA.out
        clear HA
        simp only [q19.l0] at H
        by_cases c19:x7_2 = (-1)
        ·rw [if_pos c19] at H
         have c19b0:(x7_2 == (-1)) = true:=beq_iff_eq.mpr c19
         have c19b1:(x7_2 != (-1)) = false:=bne_eq_false_iff_eq.mpr c19
         clear c19
         obtain rfl:=Option.some.inj H
         go_wp2
         go_ret
         exact ⟨by first|rfl|(simp [errW_none,errW_some] <;> rfl)|(simp [*,errW_none,errW_some] <;> rfl),bg HB.out GE101 GE101⟩
        ·rw [if_neg c19] at H
         have c19b0:(x7_2 == (-1)) = false:=beq_eq_false_iff_ne.mpr c19
         have c19b1:(x7_2 != (-1)) = true:=bne_iff_ne.mpr c19
         by_cases c20:0 ≤ x7_2
         ·rw [if_pos c20] at H
          have c20b0:decide (0 ≤ x7_2) = true:=decide_eq_true c20
          clear c20
          by_cases c21:x7_2 < (l0_0.length:Int)
          ·rw [if_pos c21] at H
           have c21b0:decide (x7_2 < (l0_0.length:Int)) = true:=decide_eq_true c21
           clear c21
           by_cases c22:(rd l0_0 x7_2) = 1
           ·rw [if_pos c22] at H
            have c22b0:((rd l0_0 x7_2) == 1) = true:=beq_iff_eq.mpr c22
            have c22b1:((rd l0_0 x7_2) != 1) = false:=bne_eq_false_iff_eq.mpr c22
            clear c22
            by_cases c23:x7_2 = a2
            ·rw [if_pos c23] at H
             have c23b0:(x7_2 == a2) = true:=beq_iff_eq.mpr c23
             have c23b1:(x7_2 != a2) = false:=bne_eq_false_iff_eq.mpr c23
             clear c23
             by_cases c24:x7_2 < (l0_1.length:Int)
             ·rw [if_pos c24] at H
              have c24b0:decide (x7_2 < (l0_1.length:Int)) = true:=decide_eq_true c24
              clear c24
              have H':=Aside0.mk H
              clear H
              have hcz25_0:wr.cell? ⟨gb101,0,none⟩ = some (.slice A0_0 l0_0.length c0_0):=(blk_cell BK101.out 0).trans rfl
              have hcz25_1:wr.cell? ⟨gb101,1,none⟩ = some (.slice (some ad104) l0_1.length c0_1):=(blk_cell BK101.out 1).trans rfl
              have hfz25_0:=blk_frozen BK101.out 0
              have hfz25_1:=blk_frozen BK101.out 1
              have p105:0 ≤ (x7_2:Int):=oA
              have q105:x7_2 < (l0_0.length:Int):=oA
              obtain ⟨ad105,e105,hx105_0⟩:=Kd.at_int HR0_0.out x7_2 p105 q105
              cases e105
              replace hx105_0:=(HB.out.cell (World.block_lt_of_cell? w _ hx105_0)).trans hx105_0
              replace p105:=eq_true p105
              replace q105:=eq_true q105
              have p106:0 ≤ (x7_2:Int):=oA
              have q106:x7_2 < (l0_1.length:Int):=oA
              obtain ⟨ad106,e106,hx106_0⟩:=Kd.at_int HR0_1.out x7_2 p106 q106
              obtain rfl:ad104 = ad106:=(by injection e106)
              replace hx106_0:=(HB.out.cell (World.block_lt_of_cell? w _ hx106_0)).trans hx106_0
              replace p106:=eq_true p106
              replace q106:=eq_true q106
              go_wp2
              go_roundg k2
              case measure=>have:=HJ3.out;have:=HK2.out;omega
              case rel=>exact ⟨(rd l0_1 x7_2),oE,H',⟨by have:=HJ3.out;have:=HK2.out;omega⟩,⟨hq BK101.out⟩,⟨bg HB.out GE101 GE101⟩⟩
             ·rw [if_neg c24] at H
              exact absurd H (by simp)
            ·rw [if_neg c23] at H
             have c23b0:(x7_2 == a2) = false:=beq_eq_false_iff_ne.mpr c23
             have c23b1:(x7_2 != a2) = true:=bne_iff_ne.mpr c23
             replace H:=Option.bind_eq_some_iff.mp H
             obtain ⟨t107,A260,H⟩:=H
             replace H:(if t107 = true then (some x7_2) else (if x7_2 < (l0_1.length:Int) then (q19.l0 k2 a2 (rd l0_1 x7_2) l0_0 l0_1) else (none))) = some r:=H
             have A26:=Aside0.mk A260
             clear A260
             by_cases c27:t107 = true
             ·subst c27
              have H1:(some x7_2) = some r:=by rw [if_pos rfl] at H;exact H
              clear H
              have H:=H1
              clear H1
              obtain rfl:=Option.some.inj H
              have hcz28_0:wr.cell? ⟨gb101,0,none⟩ = some (.slice A0_0 l0_0.length c0_0):=(blk_cell BK101.out 0).trans rfl
              have hcz28_1:wr.cell? ⟨gb101,1,none⟩ = some (.slice (some ad104) l0_1.length c0_1):=(blk_cell BK101.out 1).trans rfl
              have hfz28_0:=blk_frozen BK101.out 0
              have hfz28_1:=blk_frozen BK101.out 1
              have p105:0 ≤ (x7_2:Int):=oA
              have q105:x7_2 < (l0_0.length:Int):=oA
              obtain ⟨ad105,e105,hx105_0⟩:=Kd.at_int HR0_0.out x7_2 p105 q105
              cases e105
              replace hx105_0:=(HB.out.cell (World.block_lt_of_cell? w _ hx105_0)).trans hx105_0
              replace p105:=eq_true p105
              replace q105:=eq_true q105
              go_wp2_with (first|(go_at_call 27;(with_reducible refine (q27.calls k2 _ _ l0_0 _ _ l0_1 a2 x7_2 true _ ?side1 ?side2 ?side3 ?side4 A26.out).mono ?_);(case side1=>exact cq (Kd.C_below HR0_0.out HB.out));(case side2=>exact HC0_0.out);(case side3=>exact cq (Kd.C_below HR0_1.out HB.out));(case side4=>exact HC0_1.out);rintro e w29 ⟨rfl,hb⟩;have n0_:=zk (blk_below (g:=gb101) (o:=.cells #[.slice (some ad105) l0_0.length c0_0,.slice (some ad104) l0_1.length c0_1] 24 (0,0)) (hq BK101.out) hb);have n1_:=zk (below_step (bg HB.out GE101 GE101) hb);clear BK101;clear HB;have BK101:=n0_;have HB:=n1_;clear n0_ n1_;(try clear hb);(try clear hb2);(try clear hk);(try clear hi)))
              go_ret
              exact ⟨by first|rfl|(simp [errW_none,errW_some] <;> rfl)|(simp [*,errW_none,errW_some] <;> rfl),bg HB.out GE101 GE101⟩
             ·replace c27:=Bool.eq_false_iff.mpr c27
              subst c27
              have H1:(if x7_2 < (l0_1.length:Int) then (q19.l0 k2 a2 (rd l0_1 x7_2) l0_0 l0_1) else (none)) = some r:=by rw [if_neg (show ¬ (false = true) by decide)] at H;exact H
              clear H
              have H:=H1
              clear H1
              by_cases c30:x7_2 < (l0_1.length:Int)
              ·rw [if_pos c30] at H
               have c30b0:decide (x7_2 < (l0_1.length:Int)) = true:=decide_eq_true c30
               clear c30
               have H':=Aside0.mk H
               clear H
               have hcz31_0:wr.cell? ⟨gb101,0,none⟩ = some (.slice A0_0 l0_0.length c0_0):=(blk_cell BK101.out 0).trans rfl
               have hcz31_1:wr.cell? ⟨gb101,1,none⟩ = some (.slice (some ad104) l0_1.length c0_1):=(blk_cell BK101.out 1).trans rfl
               have hfz31_0:=blk_frozen BK101.out 0
               have hfz31_1:=blk_frozen BK101.out 1
               have p105:0 ≤ (x7_2:Int):=oA
               have q105:x7_2 < (l0_0.length:Int):=oA
               obtain ⟨ad105,e105,hx105_0⟩:=Kd.at_int HR0_0.out x7_2 p105 q105
               cases e105
               replace hx105_0:=(HB.out.cell (World.block_lt_of_cell? w _ hx105_0)).trans hx105_0
               replace p105:=eq_true p105
               replace q105:=eq_true q105
               go_wp2_with (first|(go_at_call 27;(with_reducible refine (q27.calls k2 _ _ l0_0 _ _ l0_1 a2 x7_2 false _ ?side1 ?side2 ?side3 ?side4 A26.out).mono ?_);(case side1=>exact cq (Kd.C_below HR0_0.out HB.out));(case side2=>exact HC0_0.out);(case side3=>exact cq (Kd.C_below HR0_1.out HB.out));(case side4=>exact HC0_1.out);rintro e w32 ⟨rfl,hb⟩;have n0_:=zk (blk_below (g:=gb101) (o:=.cells #[.slice (some ad105) l0_0.length c0_0,.slice (some ad104) l0_1.length c0_1] 24 (0,0)) (hq BK101.out) hb);have n1_:=zk (below_step (bg HB.out GE101 GE101) hb);clear BK101;clear HB;have BK101:=n0_;have HB:=n1_;clear n0_ n1_;(try clear hb);(try clear hb2);(try clear hk);(try clear hi);have hcz33_0:w32.cell? ⟨gb101,0,none⟩ = some (.slice (some ad105) l0_0.length c0_0):=(blk_cell BK101.out 0).trans rfl;have hcz33_1:w32.cell? ⟨gb101,1,none⟩ = some (.slice (some ad104) l0_1.length c0_1):=(blk_cell BK101.out 1).trans rfl;have hfz33_0:=blk_frozen BK101.out 0;have hfz33_1:=blk_frozen BK101.out 1;have p108:0 ≤ (x7_2:Int):=oA;have q108:x7_2 < (l0_1.length:Int):=oA;obtain ⟨ad108,e108,hx108_0⟩:=Kd.at_int HR0_1.out x7_2 p108 q108;obtain rfl:ad104 = ad108:=(by injection e108);replace hx108_0:=(HB.out.cell (World.block_lt_of_cell? w _ hx108_0)).trans hx108_0;replace p108:=eq_true p108;replace q108:=eq_true q108))
               go_roundg k2
               case measure=>have:=HJ3.out;have:=HK2.out;omega
               case rel=>exact ⟨(rd l0_1 x7_2),oE,H',⟨by have:=HJ3.out;have:=HK2.out;omega⟩,⟨hq BK101.out⟩,⟨bg HB.out GE101 GE101⟩⟩
              ·rw [if_neg c30] at H
               exact absurd H (by simp)
           ·rw [if_neg c22] at H
            have c22b0:((rd l0_0 x7_2) == 1) = false:=beq_eq_false_iff_ne.mpr c22
            have c22b1:((rd l0_0 x7_2) != 1) = true:=bne_iff_ne.mpr c22
            by_cases c34:x7_2 < (l0_1.length:Int)
            ·rw [if_pos c34] at H
             have c34b0:decide (x7_2 < (l0_1.length:Int)) = true:=decide_eq_true c34
             clear c34
             have H':=Aside0.mk H
             clear H
             have hcz35_0:wr.cell? ⟨gb101,0,none⟩ = some (.slice A0_0 l0_0.length c0_0):=(blk_cell BK101.out 0).trans rfl
             have hcz35_1:wr.cell? ⟨gb101,1,none⟩ = some (.slice (some ad104) l0_1.length c0_1):=(blk_cell BK101.out 1).trans rfl
             have hfz35_0:=blk_frozen BK101.out 0
             have hfz35_1:=blk_frozen BK101.out 1
             have p105:0 ≤ (x7_2:Int):=oA
             have q105:x7_2 < (l0_0.length:Int):=oA
             obtain ⟨ad105,e105,hx105_0⟩:=Kd.at_int HR0_0.out x7_2 p105 q105
             cases e105
             replace hx105_0:=(HB.out.cell (World.block_lt_of_cell? w _ hx105_0)).trans hx105_0
             replace p105:=eq_true p105
             replace q105:=eq_true q105
             have p109:0 ≤ (x7_2:Int):=oA
             have q109:x7_2 < (l0_1.length:Int):=oA
             obtain ⟨ad109,e109,hx109_0⟩:=Kd.at_int HR0_1.out x7_2 p109 q109
             obtain rfl:ad104 = ad109:=(by injection e109)
             replace hx109_0:=(HB.out.cell (World.block_lt_of_cell? w _ hx109_0)).trans hx109_0
             replace p109:=eq_true p109
             replace q109:=eq_true q109
             go_wp2
             go_roundg k2
             case measure=>have:=HJ3.out;have:=HK2.out;omega
             case rel=>exact ⟨(rd l0_1 x7_2),oE,H',⟨by have:=HJ3.out;have:=HK2.out;omega⟩,⟨hq BK101.out⟩,⟨bg HB.out GE101 GE101⟩⟩
            ·rw [if_neg c34] at H
             exact absurd H (by simp)
          ·rw [if_neg c21] at H
           exact absurd H (by simp)
         ·rw [if_neg c20] at H
          exact absurd H (by simp)
     ·rw [if_neg c17] at H
      exact absurd H (by simp)
    ·rw [if_neg c16] at H
     exact absurd H (by simp)
def q23.f (l0_0 l0_1:List Int) (a1 a2:Int) (l3:List Int):Option (List Int):=if M.validB l0_0 l0_1 = true ∧ 0 ≤ a2 ∧ a2 < l0_0.length ∧ (EW.enterL l0_0 l0_1 l3 a1 a2).length < 17592186044416 then some (EW.enterL l0_0 l0_1 l3 a1 a2) else none
theorem q23.calls (A0_0:Option Addr) (c0_0:Nat) (l0_0:List Int) (A0_1:Option Addr) (c0_1:Nat) (l0_1:List Int) (a1:Int) (a2:Int) (A3:Option Addr) (c3:Nat) (l3:List Int) (r:List Int) (w:World) (hr0_0:Kd.C (Kd.int .i64) w A0_0 l0_0.length l0_0) (hc0_0:l0_0.length ≤ c0_0) (hr0_1:Kd.C (Kd.int .i64) w A0_1 l0_1.length l0_1) (hc0_1:l0_1.length ≤ c0_1) (hr3:Kd.C (Kd.int .u32) w A3 l3.length l3) (hc3:l3.length ≤ c3) (h:q23.f l0_0 l0_1 a1 a2 l3 = some r) :
  Calls Try.prog 33 #[.agg #[.slice A0_0 l0_0.length c0_0,.slice A0_1 l0_1.length c0_1],.int .i64 a1,.int .i64 a2,.slice A3 l3.length c3] w fun e w'=>∃ v0_:Value,e = .returned (v0_) ∧ Kd.R (Kd.int .i64) 3 w' w.heap.size (fun _=>True) v0_ r ∧ Below w.heap.size w w':=by
 unfold q23.f at h
 by_cases c:M.validB l0_0 l0_1 = true ∧ 0 ≤ a2 ∧ a2 < l0_0.length ∧ (EW.enterL l0_0 l0_1 l3 a1 a2).length < 17592186044416
 ·rw [if_pos c] at h
  obtain rfl:=Option.some.inj h
  exact EW.enter_calls hr0_0 hc0_0 hr0_1 hc0_1 hr3 hc3 (M.Ok.of_valid c.1) a1 a2 c.2.1 c.2.2.1 c.2.2.2
 ·rw [if_neg c] at h;exact absurd h (by simp)
def q10.l0:Nat → Int → Int → Option (Int)
 | 0,_,_=>none
 | k + 1,x0,x3=>if x0 > 0 then (q10.l0 k (Go.bits .and .u32 x0 ((x0 - 1) % 4294967296)) (wrap64 (x3 + 1))) else (some x3)
def q10.f (k:Nat) (a0:Int):Option (Int):=q10.l0 k a0 0
set_option maxHeartbeats 8000000 in
set_option maxRecDepth 100000 in
theorem q10.calls (k:Nat) (a0:Int) (r:Int) (w:World) (h:q10.f k a0 = some r) :
  Calls Try.prog 41 #[.int .u32 a0] w fun e w'=>e = .returned (.int .i64 r) ∧ Drawn0 w w':=by
 have H:(q10.l0 k a0 0) = some r:=h
 clear h
 have H':=Aside0.mk H
 clear H
 go_enter Try.func41,Try.ntmps41
 go_wp2
 go_loopg [0,3] k (fun kq v0 v3 w'=>∃ (x0_1:Int) (x3_1:Int),v0 = .int .u32 x0_1 ∧ v3 = .int .i64 x3_1 ∧ Aside0 (q10.l0 kq x0_1 x3_1 = some r) ∧ Aside0 (kq ≤ k) ∧ Drawn0 w w')
 case atStart=>exact ⟨(a0),(0),oE,oE,H',⟨Nat.le_refl _⟩,by repeat (first|exact Drawn0.refl _|apply Drawn0.step)⟩
 case round =>
  clear H'
  obtain ⟨x0_1,x3_1,rfl,rfl,HA,HK1,⟨m1,rfl⟩⟩:=hrel
  cases gk with
  | zero=>exact absurd HA.out (by simp [q10.l0])
  | succ k1 =>
   have H:=HA.out
   clear HA
   simp only [q10.l0] at H
   by_cases c2:x0_1 > 0
   ·rw [if_pos c2] at H
    have c2b0:decide (0 < x0_1) = true:=decide_eq_true c2
    clear c2
    have H':=Aside0.mk H
    clear H
    go_wp2
    go_roundg k1
    case measure=>have:=HK1.out;omega
    case rel=>exact ⟨(Go.bits .and .u32 x0_1 ((x0_1 - 1) % 4294967296)),(wrap64 (x3_1 + 1)),oE,oE,H',⟨by have:=HK1.out;omega⟩,by repeat (first|exact Drawn0.refl _|apply Drawn0.step)⟩
   ·rw [if_neg c2] at H
    have c2b0:decide (0 < x0_1) = false:=decide_eq_false c2
    clear c2
    obtain rfl:=Option.some.inj H
    go_wp2
    go_ret
    exact ⟨by first|rfl|(simp;done)|(simp [*];done),by repeat (first|exact Drawn0.refl _|apply Drawn0.step)⟩
end Go.Proofs.Ytnomeokicfpidaa.Q
