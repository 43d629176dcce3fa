-- merged and slimmed by slim.py (a program of this repo)
import Derived.Test.YtnomeokicfpidaaKEnterTells14
import Derived.Test.YtnomeokicfpidaaKEnterTells12
import Derived.Deep.Matrix
namespace Go.Proofs.Ytnomeokicfpidaa.M
open Go.RowKit Go.Proofs.YtnomeokicfpidaaW.PrintWords Go.Proofs.YtnomeokicfpidaaW.PrintLast Go.Proofs.YtnomeokicfpidaaW.PrintMore Go.Proofs.Ytnomeokicfpidaa.Q
set_option linter.unusedVariables false
theorem of_l2 (l:List Int) (hl:l.length < 17592186044416) (P:List Int):∀ (d i:Nat) (K:List Int),i + d = K.length → Inv2 K P i → K.length = max 1 (min l.length 12) →
  Ex (fun k=>q23.l2 k K P (P.length:Int) (i:Int)) (OfPost l):=by
 intro d
 induction d with
 | zero =>
  intro i K hi h hn
  refine ⟨(K,P,K,P),Ev.ret (fun k=>?_),h.done (by omega),rfl,rfl,hn⟩
  have:=h.1
  simp only [q23.l2]
  rw [if_neg (by omega)]
  exact copy2 K P (by omega) (by omega)
 | succ d ih =>
  intro i K hi h hn
  have hP:=h.1
  by_cases hc:P.getD i 0 = 0 ∧ 3 ≤ K.getD i 0
  ·have ih':=ih (i + 1) (K.set i 1) (by rw [List.length_set];omega) (h.turn (by omega) hc.1 hc.2) (by rw [List.length_set];exact hn)
   refine Ex.st ih' (fun k=>?_)
   simp only [q23.l2]
   rw [if_pos (by omega),if_pos (by omega),if_pos (by omega),rd_nat,if_pos hc.1,if_pos (by omega),rd_nat,if_pos (show K.getD i 0 ≥ 3 from hc.2),w1 i (by omega),Int.toNat_natCast]
  ·refine Ex.st (ih (i + 1) K (by omega) (h.keep hc) hn) (fun k=>?_)
   simp only [q23.l2]
   rw [if_pos (by omega),if_pos (by omega),if_pos (by omega),rd_nat,rd_nat,w1 i (by omega)]
   by_cases h0:P.getD i 0 = 0
   ·rw [if_pos h0,if_pos (by omega),if_neg (fun h3=>hc ⟨h0,h3⟩)]
   ·rw [if_neg h0]
theorem of_j7 (l:List Int) (hl:l.length < 17592186044416) (K P:List Int) (h:Inv K P) (hn:K.length = max 1 (min l.length 12)) (b:Bool) :
  Ex (fun k=>q23.j7 k K P b) (OfPost l):=by
 have h1:=h.2.1
 have hP:=h.1
 cases b with
 | true =>
  refine Ex.st (of_l2 l hl P (K.set 0 2).length 0 (K.set 0 2) (by omega) (Inv2.start h) (by rw [List.length_set];exact hn)) (fun k=>?_)
  simp only [q23.j7]
  rw [if_pos trivial,if_pos (by omega)];rfl
 | false =>
  refine ⟨(K,P,K,P),Ev.ret (fun k=>?_),h,rfl,rfl,hn⟩
  simp only [q23.j7]
  rw [if_neg (by simp)]
  exact copy2 K P (by omega) (by omega)
theorem of_fin (l:List Int) (hl:l.length < 17592186044416) (K P:List Int) (h:Inv K P) (hn:K.length = max 1 (min l.length 12)) (i:Int) :
  Ex (fun k=>q23.j1 k l K P i false) (OfPost l):=by
 by_cases h0:(l.length:Int) > 0
 ·refine Ex.st (of_j7 l hl K P h hn ((Int.tmod (rd l 0) 3) == 0)) (fun k=>?_)
  simp only [q23.j1]
  rw [if_neg (by simp),if_pos h0,if_pos (by omega)]
 ·refine Ex.st (of_j7 l hl K P h hn false) (fun k=>?_)
  simp only [q23.j1]
  rw [if_neg (by simp),if_neg h0]
def Next (l:List Int) (i:Nat):Prop:=∀ K P:List Int,Inv K P → K.length = i + 1 → Ex (fun k=>q23.l0 k l K P ((i + 1:Nat):Int)) (OfPost l)
theorem of_l1 (l:List Int) (i:Nat) (hi1:i < l.length) (hi:i < 12) (K P:List Int) (h:Inv K P) (hn:K.length = i) (p:Int) (hp0:-1 ≤ p) (hp1:p < K.length) (hp:p = -1 ∨ solidB (rd K p) = true) (next:Next l i) :
  ∀ (d j:Nat) (x:Int),j + d = P.length → 1 ≤ x → x ≤ 4 → (3 ≤ x → p ≠ -1 ∧ rd K p = 1 ∧ ∃ m,m < K.length ∧ P.getD m 0 = p ∧ solidB (K.getD m 0) = true) →
   Ex (fun k=>q23.l1 k l K P (i:Int) p x (P.length:Int) (j:Int)) (OfPost l):=by
 have hP:=h.1
 intro d
 induction d with
 | zero =>
  intro j x hj hx1 hx4 hx
  refine Ex.st (next (K ++ [x]) (P ++ [p]) (h.app hx1 hx4 hp0 hp1 hp hx) (by simp;omega)) (fun k=>?_)
  simp only [q23.l1]
  rw [if_neg (by omega),if_pos (by omega),if_pos (by omega),w1 i (by omega)]
 | succ d ih =>
  intro j x hj hx1 hx4 hx
  have same:=ih (j + 1) x (by omega) hx1 hx4 hx
  have hw:=w1 j (by omega)
  by_cases c1:P.getD j 0 = p
  ·by_cases c2:K.getD j 0 ≤ 2
   ·by_cases c3:p ≥ 0
    ·by_cases c4:rd K p = 1
     ·have hv:=Int.emod_nonneg (wrap64 (Int.tdiv (rd l (i:Int)) 96)) (show (2:Int) ≠ 0 by omega)
      have hv':=Int.emod_lt_of_pos (wrap64 (Int.tdiv (rd l (i:Int)) 96)) (show (0:Int) < 2 by omega)
      obtain ⟨v,hev⟩:∃ v,wrap64 (Int.tdiv (rd l (i:Int)) 96) % 2 = v:=⟨_,rfl⟩
      rw [hev] at hv hv'
      obtain ⟨a1,_⟩:=okS_iff.1 (h.2.2.1 j (by omega))
      refine Ex.st (ih (j + 1) (3 + v) (by omega) (by omega) (by omega) (fun _=>⟨by omega,c4,j,by omega,c1,solidB_iff.2 (by omega)⟩)) (fun k=>?_)
      simp only [q23.l1]
      rw [if_pos (by omega),if_pos (by omega),if_pos (by omega),rd_nat,if_pos c1,if_pos (by omega),rd_nat,if_pos c2,if_pos c3,if_pos c3,if_pos (by omega),if_pos c4,if_pos (by omega),if_pos (by omega),within_f _ _ (by omega) (by omega),Option.bind_some,hev,w64 (x:=3 + v) (by omega) (by omega),hw]
     ·refine Ex.st same (fun k=>?_)
      simp only [q23.l1]
      rw [if_pos (by omega),if_pos (by omega),if_pos (by omega),rd_nat,if_pos c1,if_pos (by omega),rd_nat,if_pos c2,if_pos c3,if_pos c3,if_pos (by omega),if_neg c4,hw]
    ·refine Ex.st same (fun k=>?_)
     simp only [q23.l1]
     rw [if_pos (by omega),if_pos (by omega),if_pos (by omega),rd_nat,if_pos c1,if_pos (by omega),rd_nat,if_pos c2,if_neg c3,hw]
   ·refine Ex.st same (fun k=>?_)
    simp only [q23.l1]
    rw [if_pos (by omega),if_pos (by omega),if_pos (by omega),rd_nat,if_pos c1,if_pos (by omega),rd_nat,if_neg c2,hw]
  ·refine Ex.st same (fun k=>?_)
   simp only [q23.l1]
   rw [if_pos (by omega),if_pos (by omega),if_pos (by omega),rd_nat,if_neg c1,hw]
theorem of_j3 (l:List Int) (i:Nat) (hi1:i < l.length) (hi:i < 12) (K P:List Int) (h:Inv K P) (hn:K.length = i) (p:Int) (hp0:-1 ≤ p) (hp1:p < K.length) (hp:p = -1 ∨ solidB (rd K p) = true) (next:Next l i) :
  Ex (fun k=>q23.j3 k l K P (i:Int) p) (OfPost l):=by
 have hP:=h.1
 have hw:=w1 i (by omega)
 obtain ⟨t,ht⟩:∃ t,wrap64 (Int.tdiv (rd l (i:Int)) 16) % 6 = t:=⟨_,rfl⟩
 have j5:∀ b:Bool,Ex (fun k=>q23.j5 k l K P (i:Int) p 1 b) (OfPost l):=by
  intro b
  cases b with
  | true =>
   refine Ex.st (of_l1 l i hi1 hi K P h hn p hp0 hp1 hp next P.length 0 1 (by omega) (by omega) (by omega) (fun h=>by omega)) (fun k=>?_)
   simp only [q23.j5]
   rw [if_pos trivial];rfl
  | false =>
   refine Ex.st (next (K ++ [1]) (P ++ [p]) (h.app (by omega) (by omega) hp0 hp1 hp (fun h=>by omega)) (by simp;omega)) (fun k=>?_)
   simp only [q23.j5]
   rw [if_neg (by simp),if_pos (by omega),if_pos (by omega),hw]
 have j4:∀ b:Bool,Ex (fun k=>q23.j4 k l K P (i:Int) p 1 t b) (OfPost l):=by
  intro b
  cases b with
  | true =>
   refine Ex.st (next (K ++ [2]) (P ++ [p]) (h.app (by omega) (by omega) hp0 hp1 hp (fun h=>by omega)) (by simp;omega)) (fun k=>?_)
   simp only [q23.j4]
   rw [if_pos trivial,if_pos (by omega),if_pos (by omega),hw]
  | false =>
   by_cases h2:t = 2
   ·refine Ex.st (j5 (t == 2)) (fun k=>?_)
    simp only [q23.j4]
    rw [if_neg (by simp),if_pos h2]
   ·refine Ex.st (j5 (t == 3)) (fun k=>?_)
    simp only [q23.j4]
    rw [if_neg (by simp),if_neg h2]
 by_cases h0:t = 0
 ·refine Ex.st (j4 (t == 0)) (fun k=>?_)
  simp only [q23.j3]
  rw [if_pos (by omega),if_pos (by omega),within_f _ _ (by omega) (by omega),Option.bind_some,ht,if_pos h0]
 ·refine Ex.st (j4 (t == 1)) (fun k=>?_)
  simp only [q23.j3]
  rw [if_pos (by omega),if_pos (by omega),within_f _ _ (by omega) (by omega),Option.bind_some,ht,if_neg h0]
theorem of_l0 (l:List Int) (hl:l.length < 17592186044416):∀ (d i:Nat) (K P:List Int),Inv K P → K.length = i → i ≤ max 1 (min l.length 12) → i + d = max 1 (min l.length 12) →
  Ex (fun k=>q23.l0 k l K P (i:Int)) (OfPost l):=by
 intro d
 induction d with
 | zero =>
  intro i K P h hn hi hd
  refine Ex.st (of_fin l hl K P h (by omega) (i:Int)) (fun k=>?_)
  simp only [q23.l0]
  by_cases hlt:(i:Int) < (l.length:Int)
  ·rw [if_pos hlt,decide_eq_false (by omega)]
  ·rw [if_neg hlt]
 | succ d ih =>
  intro i K P h hn hi hd
  have h1:=h.2.1
  have next:Next l i:=fun K' P' h' hn'=>ih (i + 1) K' P' h' hn' (by omega) (by omega)
  obtain ⟨v,hv⟩:∃ v,rd l (i:Int) % ((i + 1:Nat):Int) = v:=⟨_,rfl⟩
  have hv0:=Int.emod_nonneg (rd l (i:Int)) (show ((i + 1:Nat):Int) ≠ 0 by omega)
  have hv1:=Int.emod_lt_of_pos (rd l (i:Int)) (show 0 < ((i + 1:Nat):Int) by omega)
  rw [hv] at hv0 hv1
  have hwv:wrap64 (v - 1) = v - 1:=w64 (by omega) (by omega)
  have j2:∀ b:Bool,(b = false → v - 1 = -1 ∨ solidB (rd K (v - 1)) = true) → Ex (fun k=>q23.j2 k l K P (i:Int) (v - 1) b) (OfPost l):=by
   intro b hb
   cases b with
   | true =>
    refine Ex.st (of_j3 l i (by omega) (by omega) K P h hn (-1) (by omega) (by omega) (.inl rfl) next) (fun k=>?_)
    simp only [q23.j2]
    rw [if_pos trivial]
   | false =>
    refine Ex.st (of_j3 l i (by omega) (by omega) K P h hn (v - 1) (by omega) (by omega) (hb rfl) next) (fun k=>?_)
    simp only [q23.j2]
    rw [if_neg (by simp)]
  have j1:Ex (fun k=>q23.j1 k l K P (i:Int) true) (OfPost l):=by
   by_cases hc:v - 1 ≥ 0
   ·refine Ex.st (j2 (decide (rd K (v - 1) ≥ 3)) (fun hb=>?_)) (fun k=>?_)
    ·have h3:=of_decide_eq_false hb
     right
     obtain ⟨a,_⟩:=okS_iff.1 (h.2.2.1 (v - 1).toNat (by omega))
     exact solidB_iff.2 (by unfold rd at h3 ⊢;omega)
    ·simp only [q23.j1]
     rw [if_pos trivial,if_pos (by omega),if_pos (by omega),w1 i (by omega),within_f _ _ (by omega) (by omega),Option.bind_some,hv,hwv,if_pos hc,if_pos hc,if_pos (by omega)]
   ·refine Ex.st (j2 false (fun _=>.inl (by omega))) (fun k=>?_)
    simp only [q23.j1]
    rw [if_pos trivial,if_pos (by omega),if_pos (by omega),w1 i (by omega),within_f _ _ (by omega) (by omega),Option.bind_some,hv,hwv,if_neg hc]
  refine Ex.st j1 (fun k=>?_)
  simp only [q23.l0]
  rw [if_pos (by omega),decide_eq_true (by omega)]
theorem Inv.one:Inv [1] [-1]:=by
 refine ⟨rfl,by simp,fun i hi=>?_,fun i hi h3=>?_,rfl,rfl⟩
 ·obtain rfl:i = 0:=by simp at hi;exact hi
  decide
 ·obtain rfl:i = 0:=by simp at hi;exact hi
  simp at h3
theorem of_f (l:List Int) (hl:l.length < 17592186044416):Ex (fun k=>q23.f k l) (OfPost l):=by
 unfold q23.f
 exact of_l0 l hl (max 1 (min l.length 12) - 1) 1 [1] [-1] Inv.one rfl (by omega) (by omega)
end Go.Proofs.Ytnomeokicfpidaa.M
namespace Go.Proofs.Ytnomeokicfpidaa.Pure
open Go.RowKit Go.Proofs.YtnomeokicfpidaaW.PrintWords Go.Proofs.YtnomeokicfpidaaW.PrintLast Go.Proofs.YtnomeokicfpidaaW.PrintMore Go.Proofs.Ytnomeokicfpidaa.Q Go.Proofs.Ytnomeokicfpidaa.M Go.Proofs.Ytnomeokicfpidaa.EW
set_option linter.unusedVariables false
theorem tells_j0 {K P:List Int} (hI:Inv K P) (h12:K.length ≤ 12) (c:Nat) (hc:c < 4294967296) (l4:List (List Int)) {a z:Int} (a0:0 ≤ a) (a1:a < K.length) (z0:0 ≤ z) (z1:z < K.length) :
  Ev (fun k=>q10.j0 k a z l4 (c:Int) K P K P) true:=by
 have hO:=hI.ok (by omega)
 obtain ⟨d0,d1,d2,d3,d4,d5⟩:=domL_spec hO a0 a1 z0 z1
 have hD:=rDomain_f hO a0 a1 z0 z1
 generalize domL K P a z = d at d0 d1 d2 d3 d4 d5 hD
 obtain ⟨p,hp,hPQ⟩:=past_f hI (by omega) l4
 have hQ:=hPQ.ok hO
 have hpl:=hPQ.1
 obtain ⟨hB,_⟩:=enter_BL hO hQ z0 z1 d2 d4 d5
 obtain ⟨hS,_⟩:=start_BL hO
 have hl:=BL.len hB
 have hls:=BL.len hS
 have hE:q32.f K P d z p = some (enterL K P p d z):=by
  unfold q32.f
  rw [if_pos ⟨hI.valid (by omega),z0,z1,by omega⟩]
 have hst:q35.f K P = some (startL K P):=by
  unfold q35.f
  rw [if_pos ⟨hI.valid (by omega),by omega⟩]
 have hbl:=below_len K P (c:Int) d
 have hlr:∀ x ∈ (belowL K P (c:Int) d).reverse,0 ≤ x ∧ x < K.length:=fun x hx=>by
  obtain ⟨j,rfl,hj,_⟩:=mem_below.1 (List.mem_reverse.1 hx);omega
 have hll:(belowL K P (c:Int) d).reverse.length ≤ K.length:=by rw [List.length_reverse];exact hbl
 obtain ⟨m,hm,hm1⟩:=Remember_f hO (c:Int) (belowL K P (c:Int) d).reverse p (by omega) hlr hPQ.1
 obtain ⟨m',hm',hm2⟩:=rRemember_f hO c hc (belowL K P (c:Int) d).reverse p (by omega) hlr
 obtain rfl:=rem_eq hm1 hm2
 have hml:=hm1.1
 refine Ev.step (fun k=>q10.j0.eq_2 ..) ?_
 refine Ev.bd hD (Ev.bd hp (Ev.bd (rLeave_f hO c hc d d0 (by omega)) ?_))
 rw [copy32_f p (by omega)]
 refine Ev.som (Ev.bd (Leave_f hO (c:Int) d d0 (by omega)) (Ev.bd (same_f _ (by omega)) (Ev.pos rfl ?_)))
 rw [hE]
 refine Ev.som (Ev.bd (rEnter_f hO hPQ z0 z1 d4 d5) (Ev.bd (same_f _ (by omega)) (Ev.pos rfl ?_)))
 rw [hst]
 refine Ev.som (Ev.bd (rStart_f hO) (Ev.bd (same_f _ (by omega)) (Ev.pos rfl ?_)))
 exact Ev.bd hm (Ev.bd hm' (Ev.bd (same32_f _ (by omega)) (Ev.pos rfl (Ev.bd (same32_f _ (by omega)) (Ev.pos rfl (Ev.bd wakes7_f (Ev.now _)))))))
theorem EnterTells (l0 l1:List Int) (a2 a3:Int) (l4:List (List Int)) (_:l0.length ≤ maxLen) (hl0:l0.length * 8 ≤ 140737488351232) (_:∀ x ∈ l0,(Lit.int .i64 x).wf = true) (_:l1.length ≤ maxLen) (_:l1.length * 8 ≤ 140737488351232) (_:∀ x ∈ l1,(Lit.int .i64 x).wf = true) (_:(Lit.int .i64 a2).wf = true) (_:(Lit.int .i64 a3).wf = true) (_:l4.length ≤ maxLen) (_:∀ z ∈ l4,z.length ≤ maxLen ∧ ∀ n ∈ z,(Lit.int .i64 n).wf = true):∃ k,Q.q10.f k l0 l1 a2 a3 l4 = some true:=by
 refine Ev.rounds (r:=true) ?_
 unfold q10.f
 obtain ⟨⟨K,P,K',P'⟩,hE,hI,e1,e2,hlen⟩:=of_f l0 (by omega)
 simp only at hI hlen e1 e2
 subst e1 e2
 refine Ev.bd hE ?_
 simp only
 have hn:=hI.1
 have h12:K'.length ≤ 12:=by omega
 have h1:=hI.2.1
 obtain ⟨_,hc,c,rfl,hcl,hLP⟩:=config_f hI (by omega) l1
 have h32:(2:Nat) ^ K'.length ≤ 2 ^ 12:=Nat.pow_le_pow_right (by decide) h12
 have h32' : (2:Nat) ^ K'.length ≤ 4096:=h32
 clear h32
 refine Ev.bd hc ?_
 rw [within_f a2 _ (by omega) (by omega),within_f a3 _ (by omega) (by omega)]
 have m0:=Int.emod_nonneg a2 (show (K'.length:Int) ≠ 0 by omega)
 have m1:=Int.emod_lt_of_pos a2 (show 0 < (K'.length:Int) by omega)
 generalize a2 % (K'.length:Int) = a at m0 m1
 have z0:=Int.emod_nonneg a3 (show (K'.length:Int) ≠ 0 by omega)
 have z1:=Int.emod_lt_of_pos a3 (show 0 < (K'.length:Int) by omega)
 generalize a3 % (K'.length:Int) = z at z0 z1
 refine Ev.som (Ev.som (Ev.pos m0 (Ev.pos m1 ?_)))
 by_cases h3:rd K' a ≥ 3
 ·exact Ev.pos h3 (tells_j0 hI h12 c (by omega) l4 (by omega) (by omega) z0 z1)
 ·exact Ev.neg h3 (tells_j0 hI h12 c (by omega) l4 m0 m1 z0 z1)
end Go.Proofs.Ytnomeokicfpidaa.Pure
namespace Go.Proofs.YtnomeokicfpidaaW.PrintWords
open Go.RowKit Go.ChangeShapes Go.WideShapes Go.Deep
set_option linter.unusedVariables false
theorem getD_map_range {α:Type} (f:Nat → α) (d:α) {n j:Nat} (h:j < n):((List.range n).map f)[j]? = some (f j):=by
 rw [List.getElem?_map,List.getElem?_range h];rfl
theorem open_rows_C {H:Type} {enc:TypeId × Value → H} {P:Program} {w:World} {base:Nat} {held:Bool} {t e q:TypeId} {k:IntKind} {fuel:Nat} {A:Option Addr} {len cap:Nat} {x:DataW H × List MemPlace}
  (ht:P.underlying t = some (.slice e)) (he:P.underlying e = some (.slice q)) (hq:P.underlying q = some (.int k))
  (ce:P.cellsOf e = 1) (cq:P.cellsOf q = 1) (h:DataW.trod enc P w base (fun _=>true) held fuel t (Value.slice A len cap).cells.toList = some x) :
  ∃ l:List (List Int),len = l.length ∧ l.length ≤ cap ∧ l.length ≤ maxLen ∧ Kd.C (Kd.slice q (Kd.int k)) w A l.length l ∧ (∀ z ∈ l,z.length ≤ maxLen ∧ ∀ n ∈ z,(Lit.int k n).wf = true):=by
 rcases open_int_rows ht he hq ce cq h with ⟨hcs,_⟩|⟨a,len',cap',B,L,C,Z,hcs,_,hl,hm,_,hr⟩
 ·simp [Value.cells] at hcs
  obtain ⟨rfl,rfl,rfl⟩:=hcs
  exact ⟨[],rfl,by simp,by simp [maxLen],⟨rfl,by simp,fun h=>by simp at h⟩,by simp⟩
 ·simp [Value.cells] at hcs
  obtain ⟨rfl,rfl,rfl⟩:=hcs
  have hlen:((List.range len).map (fun r=>(Z r).take (L r))).length = len:=by simp
  refine ⟨(List.range len).map (fun r=>(Z r).take (L r)),hlen.symm,by rw [hlen];exact hl,by rw [hlen];omega,?_,?_⟩
  ·rw [hlen]
   refine ⟨hlen,by unfold maxLen at hm;omega,fun _=>⟨a,rfl,fun j p hj=>?_⟩⟩
   have hjl:j < len:=by
    have:=(List.getElem?_eq_some_iff.1 hj).1
    rwa [hlen] at this
   rw [getD_map_range _ ([]:List Int) hjl] at hj
   obtain rfl:=Option.some.inj hj
   obtain ⟨h1,h2,h3,h4,h5,h6,h7⟩:=hr j (by omega)
   have hzl:((Z j).take (L j)).length = L j:=by rw [List.length_take];omega
   refine ⟨[.slice (B j) (L j) (C j)],rfl,⟨B j,C j,by rw [hzl],by omega,?_⟩,fun i u hu=>?_⟩
   ·rw [hzl]
    refine ⟨hzl,by unfold maxLen at h3;omega,fun hpos=>?_⟩
    cases hB:B j with
    | none=>have:=h6 hB;omega
    | some b =>
     refine ⟨b,rfl,fun i p hi=>?_⟩
     have hil:i < L j:=by
      have:=(List.getElem?_eq_some_iff.1 hi).1
      rwa [hzl] at this
     refine ⟨[.int k p],rfl,rfl,fun i' u hu=>?_⟩
     have hc:=(h7 b hB).2 i (by omega)
     rw [List.getElem?_take,if_pos hil] at hi
     rw [List.getD_eq_getElem?_getD,hi] at hc
     cases i' with
     | zero =>
      have:u = .int k p:=(Option.some.inj hu).symm
      rw [this,Nat.add_zero,show i * (Kd.int k).sz = i from Nat.mul_one i];exact hc
     | succ i'=>simp at hu
   ·cases i with
    | zero =>
     have:u = .slice (B j) (L j) (C j):=(Option.some.inj hu).symm
     rw [this,Nat.add_zero,show j * (Kd.slice q (Kd.int k)).sz = j from Nat.mul_one j];exact h1
    | succ i=>simp at hu
  ·intro z hz
   obtain ⟨j,hj,rfl⟩:=List.mem_map.1 hz
   rw [List.mem_range] at hj
   obtain ⟨h1,h2,h3,h4,h5,h6,h7⟩:=hr j (by omega)
   exact ⟨by rw [List.length_take];omega,fun n hn=>h5 n (List.mem_of_mem_take hn)⟩
end Go.Proofs.YtnomeokicfpidaaW.PrintWords
