-- merged and slimmed by slim.py (a program of this repo)
import Derived.Test.YtnomeokicfpidaaKEnterProper8
import Derived.Test.YtnomeokicfpidaaKEnterProper7
import Derived.Deep.Matrix
namespace Go.Proofs.Ytnomeokicfpidaa.M
open Go.RowKit Go.Proofs.YtnomeokicfpidaaW.PrintWords Go.Proofs.YtnomeokicfpidaaW.PrintLast Go.Proofs.YtnomeokicfpidaaW.PrintMore Go.Proofs.Ytnomeokicfpidaa.Q Go.Proofs.Ytnomeokicfpidaa.EW
set_option linter.unusedVariables false
theorem Ex.step {α:Type} {g f:Nat → Option α} {Q:α → Prop} (e:∀ k,g (k + 1) = f k) (h:Ex f Q):Ex g Q:=Ex.st h e
theorem Ex.pos {α:Type} {c:Prop} [Decidable c] {f g:Nat → Option α} {Q:α → Prop} (h:c) (k:Ex f Q):Ex (fun n=>if c then f n else g n) Q:=by simpa [h] using k
theorem Ex.neg {α:Type} {c:Prop} [Decidable c] {f g:Nat → Option α} {Q:α → Prop} (h:¬ c) (k:Ex g Q):Ex (fun n=>if c then f n else g n) Q:=by simpa [h] using k
theorem Ex.now {α:Type} {r:α} {Q:α → Prop} (h:Q r):Ex (fun _=>some r) Q:=⟨r,Ev.now r,h⟩
theorem Ex.xbd {α β:Type} {g:Nat → Option α} {f:Nat → α → Option β} {Q:β → Prop} {R:α → Prop} (h:Ex g R) (k:∀ a,R a → Ex (fun n=>f n a) Q):Ex (fun n=>(g n).bind (fun x=>f n x)) Q:=by
 obtain ⟨a,ha,hr⟩:=h
 exact Ex.bd ha (k a hr)
theorem Ex.som {α β:Type} {f:Nat → α → Option β} {a:α} {Q:β → Prop} (k:Ex (fun n=>f n a) Q):Ex (fun n=>(some a).bind (fun x=>f n x)) Q:=k
theorem and1_lt {x c k:Nat} (hx:x < 4294967296) (hc:c < 4294967296):x ||| (c &&& 2 ^ k) < 4294967296 :=
 Nat.or_lt_two_pow (n:=32) hx (Nat.lt_of_le_of_lt Nat.and_le_left hc)
theorem and1_lt' {c k:Nat} (hc:c < 4294967296):c &&& 2 ^ k < 4294967296:=Nat.lt_of_le_of_lt Nat.and_le_left hc
theorem tb_and1 {x c k j:Nat}:(x ||| (c &&& 2 ^ k)).testBit j = true ↔ x.testBit j = true ∨ (j = k ∧ c.testBit j = true):=by
 rw [Nat.testBit_or,Nat.testBit_and,Nat.testBit_two_pow,Bool.or_eq_true,Bool.and_eq_true,decide_eq_true_eq]
 constructor
 ·rintro (h|⟨h,e⟩)
  ·exact .inl h
  ·exact .inr ⟨e.symm,h⟩
 ·rintro (h|⟨e,h⟩)
  ·exact .inl h
  ·exact .inr ⟨h,e.symm⟩
def PE (K P:List Int) (i:Nat) (q:Nat):Prop:=q < 4294967296 ∧ (q = 0 ∨ ∃ s:Nat,s < 4294967296 ∧ LP K P (-1) s ∧ s.testBit i = true ∧ ∀ j:Nat,q.testBit j = true ↔ j < K.length ∧ (j:Int) ≠ i ∧ Un P (j:Int) i ∧ s.testBit j = true)
def PQ (K P Q:List Int):Prop:=Q.length ≤ K.length ∧ ∀ i:Nat,i < Q.length → ∃ q:Nat,Q.getD i 0 = (q:Int) ∧ PE K P i q
theorem PQ.app {K P Q:List Int} (h:PQ K P Q) (hl:Q.length < K.length) {q:Nat} (hq:PE K P Q.length q):PQ K P (Q ++ [(q:Int)]):=by
 refine ⟨by simp;omega,fun i hi=>?_⟩
 rw [List.length_append,List.length_singleton] at hi
 by_cases e:i = Q.length
 ·exact ⟨q,getD_app_r e,e ▸ hq⟩
 ·rw [getD_app_l (by omega)]
  exact h.2 i (by omega)
theorem past_l1 {K P:List Int} (hn:P.length = K.length) (hT:Tree P) (h24:K.length ≤ 24) (ls:List (List Int)) (Q:List Int) (i c:Nat) (hQ:Q.length < 1000) (hi:i < K.length) (hc:c < 4294967296) (hci:c < 2 ^ K.length) {Post:List Int → Prop}
  (next:∀ q:Nat,q < 4294967296 → (∀ j:Nat,q.testBit j = true ↔ j < K.length ∧ (j:Int) ≠ i ∧ Un P (j:Int) i ∧ c.testBit i = true ∧ c.testBit j = true) → Ex (fun k=>q12.l0 k ls (Q ++ [(q:Int)]) ((i + 1:Nat):Int) K P) Post) :
  ∀ (d x q:Nat),x + d = K.length → q < 4294967296 → (∀ j:Nat,q.testBit j = true ↔ j < x ∧ (j:Int) ≠ i ∧ Un P (j:Int) i ∧ c.testBit i = true ∧ c.testBit j = true) →
  Ex (fun k=>q12.l1 k ls Q (i:Int) (q:Int) (c:Int) (K.length:Int) (x:Int) K P) Post:=by
 intro d
 induction d with
 | zero =>
  intro x q hx hq hb
  refine Ex.step (fun k=>q12.l1.eq_2 ..) ?_
  refine Ex.neg (by omega) (Ex.pos (by omega) ?_)
  rw [w1 i (by omega)]
  exact next q hq (fun j=>by rw [hb,show x = K.length by omega])
 | succ d ih =>
  intro x q hx hq hb
  have keep:¬ ((x:Int) ≠ i ∧ Un P (x:Int) i ∧ c.testBit i = true ∧ c.testBit x = true) → Ex (fun k=>q12.l1 k ls Q (i:Int) (q:Int) (c:Int) (K.length:Int) ((x + 1:Nat):Int) K P) Post:=fun h=>by
   refine ih (x + 1) q (by omega) hq (fun j=>?_)
   rw [hb]
   constructor
   ·rintro ⟨a,b⟩;exact ⟨by omega,b⟩
   ·rintro ⟨a,b⟩
    refine ⟨?_,b⟩
    by_cases e:j = x
    ·subst e;exact absurd b h
    ·omega
  refine Ex.step (fun k=>q12.l1.eq_2 ..) ?_
  refine Ex.pos (by omega) ?_
  rw [w1 x (by omega),u64w i (by omega),u64w x (by omega)]
  by_cases e:(x:Int) = i
  ·exact Ex.pos e (keep (fun h=>h.1 e))
  ·refine Ex.neg e (Ex.bd (rUnder_f hn hT (by omega) (by omega) (by omega) (by omega)) ?_)
   by_cases u:unB P (x:Int) i = true
   ·refine Ex.pos u (Ex.pos (by omega) ?_)
    rw [bit1 c i hc]
    by_cases hbi:c.testBit i = true
    ·refine Ex.pos (by rw [if_pos hbi]) (Ex.pos (by omega) ?_)
     rw [shl_one x (by omega),u32_and c _ hc (pow_lt32 (by omega)),u32_or q _ hq (and1_lt' hc)]
     refine ih (x + 1) _ (by omega) (and1_lt hq hc) (fun j=>?_)
     rw [tb_and1,hb]
     have u':=(unB_iff hT (by omega) (by omega)).1 u
     constructor
     ·rintro (⟨a,b⟩|⟨rfl,b⟩)
      ·exact ⟨by omega,b⟩
      ·exact ⟨by omega,e,u',hbi,b⟩
     ·rintro ⟨a,b,c',d',e'⟩
      by_cases g:j = x
      ·exact .inr ⟨g,e'⟩
      ·exact .inl ⟨by omega,b,c',d',e'⟩
    ·exact Ex.neg (by rw [if_neg hbi];simp) (keep (fun h=>hbi h.2.2.1))
   ·exact Ex.neg u (keep (fun h=>u ((unB_iff hT (by omega) (by omega)).2 h.2.1)))
theorem past_l0 {K P:List Int} (hI:Inv K P) (h24:K.length ≤ 24) (ls:List (List Int)):∀ (d i:Nat) (Q:List Int),i + d = K.length → Q.length = i → PQ K P Q →
  Ex (fun k=>q12.l0 k ls Q (i:Int) K P) (PQ K P):=by
 have hn:=hI.1
 have hT:=hI.tree
 have h32:(2:Nat) ^ K.length ≤ 2 ^ 24:=Nat.pow_le_pow_right (by decide) h24
 have h32' : (2:Nat) ^ K.length ≤ 16777216:=h32
 clear h32
 intro d
 induction d with
 | zero =>
  intro i Q hi hl hQ
  refine Ex.step (fun k=>q12.l0.eq_2 ..) ?_
  refine Ex.neg (by omega) (Ex.step (fun k=>q12.j1.eq_2 ..) ?_)
  exact Ex.neg (by simp) (Ex.now hQ)
 | succ d ih =>
  intro i Q hi hl hQ
  have nxt:∀ q:Nat,PE K P i q → Ex (fun k=>q12.l0 k ls (Q ++ [(q:Int)]) ((i + 1:Nat):Int) K P) (PQ K P):=fun q hq =>
   ih (i + 1) (Q ++ [(q:Int)]) (by omega) (by simp [hl]) (hQ.app (by omega) (hl ▸ hq))
  have zero:Ex (fun k=>q12.j2 k ls Q (i:Int) 0 false K P) (PQ K P):=by
   refine Ex.step (fun k=>q12.j2.eq_2 ..) ?_
   refine Ex.neg (by simp) (Ex.pos (by omega) ?_)
   rw [w1 i (by omega)]
   exact nxt 0 ⟨by decide,.inl rfl⟩
  refine Ex.step (fun k=>q12.l0.eq_2 ..) ?_
  refine Ex.pos (by omega) (Ex.step (fun k=>q12.j1.eq_2 ..) ?_)
  by_cases hm:(i:Int) < (ls.length:Int)
  ·refine Ex.pos (decide_eq_true hm) (Ex.pos (by omega) (Ex.pos hm ?_))
   by_cases hp:((rd_L2 ls (i:Int)).length:Int) > 0
   ·refine Ex.pos hp (Ex.pos hp ?_)
    by_cases h3:(Int.tmod (rd (rd_L2 ls (i:Int)) 0) 3 != 0) = true
    ·rw [h3]
     refine Ex.step (fun k=>q12.j2.eq_2 ..) ?_
     refine Ex.pos rfl (Ex.pos (by omega) (Ex.pos hm (Ex.xbd (config_f hI h24 (rd_L2 ls (i:Int))) ?_)))
     rintro _ ⟨c,rfl,hc,hLP⟩
     refine past_l1 hn hT h24 ls Q i c (by omega) (by omega) (by omega) hc (fun q hq hb=>nxt q ⟨hq,?_⟩) K.length 0 0 (by omega) (by decide) (fun j=>by simp)
     by_cases hci:c.testBit i = true
     ·right
      exact ⟨c,by omega,hLP,hci,fun j=>by rw [hb];simp [hci]⟩
     ·left
      refine Nat.eq_of_testBit_eq (fun j=>?_)
      rw [Nat.zero_testBit]
      exact eq_false_of_ne_true (fun h=>hci ((hb j).1 h).2.2.2.1)
    ·rw [eq_false_of_ne_true h3];exact zero
   ·exact Ex.neg hp zero
  ·refine Ex.neg (by rw [decide_eq_false hm];simp) (Ex.now hQ)
theorem past_f {K P:List Int} (hI:Inv K P) (h24:K.length ≤ 24) (ls:List (List Int)):Ex (fun k=>q12.f k K P ls) (PQ K P):=by
 unfold q12.f
 exact past_l0 hI h24 ls K.length 0 [] (by omega) rfl ⟨by simp,fun i hi=>by simp at hi⟩
theorem below_congr {K P:List Int} {s s' a:Int} (h:∀ j:Nat,j < K.length → (j:Int) ≠ a → unB P j a = true → inB s j = inB s' j):belowL K P s a = belowL K P s' a:=by
 unfold belowL belowFrom
 congr 1
 refine List.filter_congr (fun j hj=>?_)
 have hj' : j < K.length:=by have:=List.mem_range'_1.1 hj;omega
 by_cases e:(j:Int) = a
 ·simp [e]
 ·by_cases u:unB P j a = true
  ·rw [h j hj' e u]
  ·simp [u]
theorem wasS_nat (Q:List Int) (i:Nat):wasS Q (i:Int) = if i < Q.length then Q.getD i 0 else 0:=by
 unfold wasS
 rw [if_neg (by omega)]
 by_cases h:i < Q.length
 ·rw [if_neg (by omega),if_pos h,rd_nat]
 ·rw [if_pos (by omega),if_neg h]
theorem inB_zero (j:Nat):inB 0 (j:Int) = false:=by
 have:=inB_nat 0 j (by decide)
 rw [Nat.zero_testBit] at this;exact this
theorem below_zero (K P:List Int) (a:Int):belowL K P 0 a = []:=by
 cases h:belowL K P 0 a with
 | nil=>rfl
 | cons x L =>
  have:x ∈ belowL K P 0 a:=by rw [h];simp
  obtain ⟨j,rfl,_,_,h3,_⟩:=mem_below.1 this
  rw [inB_zero] at h3;cases h3
theorem PE.ok {K P:List Int} (hO:Ok K P) {i q:Nat} (h:PE K P i q):belowL K P (q:Int) (i:Int) = [] ∨ BL K P (i:Int) (belowL K P (q:Int) (i:Int)):=by
 have hn:=hO.1
 obtain ⟨hq,rfl|⟨s,hs,hLP,hi,hb⟩⟩:=h
 ·exact .inl (below_zero K P _)
 ·right
  rw [below_congr (s':=(s:Int)) (fun j hj e u=>?_)]
  ·exact LP.below hO hLP hs (.inr ⟨by omega,by rw [Int.toNat_natCast];exact hi⟩)
  ·rw [inB_nat q j hq,inB_nat s j hs,Bool.eq_iff_iff,hb]
   exact ⟨fun h=>h.2.2.2,fun h=>⟨hj,e,(unB_iff hO.tree (by omega) (by omega)).1 u,h⟩⟩
theorem PQ.ok {K P Q:List Int} (hO:Ok K P) (h:PQ K P Q):PastOk K P Q:=by
 intro i h0 h1
 obtain ⟨i,rfl⟩:∃ j:Nat,i = (j:Int):=⟨i.toNat,by omega⟩
 rw [wasS_nat]
 by_cases hi:i < Q.length
 ·rw [if_pos hi]
  obtain ⟨q,e,hq⟩:=h.2 i hi
  rw [e];exact hq.ok hO
 ·rw [if_neg hi];exact .inl (below_zero K P _)
theorem PQ.nil (K P:List Int):PQ K P []:=⟨by simp,fun i hi=>by simp at hi⟩
end Go.Proofs.Ytnomeokicfpidaa.M
namespace Go.Proofs.Ytnomeokicfpidaa.Q
open Go.RowKit Go.Proofs.YtnomeokicfpidaaW.PrintWords Go.Proofs.YtnomeokicfpidaaW.PrintLast Go.Proofs.YtnomeokicfpidaaW.PrintMore
attribute [local go_sem] max2_int min2_int max_two min_two max_three min_three max_four min_four
set_option linter.unusedVariables false
set_option linter.unusedSimpArgs false
mutual
def q15.j0:Nat → Int → Bool → List Int → List Int → Option (Bool)
 | 0,_,_,_,_=>none
 | k + 1,x1,x15,x102000,x102001=>if x15 = true then (some false) else ((q29.f k x102000 x102001 x1).bind fun t102=>(q15.l0 k t102 (t102.length:Int) 0 x102000 x102001))
def q15.l0:Nat → List Int → Int → Int → List Int → List Int → Option (Bool)
 | 0,_,_,_,_,_=>none
 | k + 1,x18,x19,x20,x102000,x102001=>if x20 < x19 then (if 0 ≤ x20 then (if x20 < (x18.length:Int) then (if 0 ≤ (rd x18 x20) then (if (rd x18 x20) < (x102000.length:Int) then (if (rd x102000 (rd x18 x20)) = 3 then (some true) else (if (rd x102000 (rd x18 x20)) = 4 then (some true) else (q15.l0 k x18 x19 (wrap64 (x20 + 1)) x102000 x102001))) else (none)) else (none)) else (none)) else (none)) else (some false)
end
def q15.f (k:Nat) (l0_0:List Int) (l0_1:List Int) (a1:Int):Option (Bool):=if a1 < 0 then (q15.j0 k a1 true l0_0 l0_1) else (q15.j0 k a1 (decide (a1 ≥ (l0_0.length:Int))) l0_0 l0_1)
mutual
def q17.l0:Nat → Int → List Int → List Int → Int → Int → List Int → List Int → Option (List Int)
 | 0,_,_,_,_,_,_,_=>none
 | k + 1,x1,x9,x21,x22,x23,x102000,x102001=>if x23 < x22 then (if 0 ≤ x23 then (if x23 < (x21.length:Int) then ((q15.f k x102000 x102001 (rd x21 x23)).bind fun t109=>(if t109 = true then (if 0 ≤ (rd x21 x23) then (if (rd x21 x23) < (x9.length:Int) then ((q26.f k x102000 x102001 x1 (rd x21 x23)).bind fun t111=>(q17.l1 k x1 (x9.set ((rd x21 x23):Int).toNat 0) (rd x21 x23) x21 x22 x23 t111 (t111.length:Int) 0 x102000 x102001)) else (none)) else (none)) else (q17.l0 k x1 x9 x21 x22 (wrap64 (x23 + 1)) x102000 x102001))) else (none)) else (none)) else (some x9)
def q17.l1:Nat → Int → List Int → Int → List Int → Int → Int → List Int → Int → Int → List Int → List Int → Option (List Int)
 | 0,_,_,_,_,_,_,_,_,_,_,_=>none
 | k + 1,x1,x9,x11,x21,x22,x23,x37,x38,x39,x102000,x102001=>if x39 < x38 then (if 0 ≤ x39 then (if x39 < (x37.length:Int) then (if 0 ≤ x11 then (if x11 < (x9.length:Int) then (if 0 ≤ (rd x37 x39) then (q17.l1 k x1 (x9.set (x11:Int).toNat (Go.bits .or .u32 (rd x9 x11) (shl .u32 1 (rd x37 x39)))) x11 x21 x22 x23 x37 x38 (wrap64 (x39 + 1)) x102000 x102001) else (none)) else (none)) else (none)) else (none)) else (none)) else (q17.l0 k x1 x9 x21 x22 (wrap64 (x23 + 1)) x102000 x102001)
end
def q17.f (k:Nat) (l0_0:List Int) (l0_1:List Int) (a1:Int) (l2:List Int) (l3:List Int):Option (List Int):=if 0 ≤ (l0_0.length:Int) then (if ((l0_0.length:Int):Int).toNat ≤ 70368744177664 then ((some (List.replicate ((l0_0.length:Int):Int).toNat 0:List Int)).bind fun y102=>(q17.l0 k a1 (l3.take (min l3.length y102.length) ++ y102.drop (min l3.length y102.length)) l2 (l2.length:Int) 0 l0_0 l0_1)) else (none)) else (none)
def q17.T11:Bool × List (List Nat × List Nat):=(true,[([],[]),([],[]),([],[]),([],[]),([2,3],[2,3]),([4],[4]),([],[]),([6],[6]),([5,7],[5,7]),([0,1,0,1,2,3,4,5,6,7,8],[0,1]),([9,8,0,1,2,3,4,5,6,7,8],[8,9])])
def q17.B11:List Nat:=[0,0,0,0,12,28,0,64,252,511,1023]
theorem enter_Remember.tab11:rtab .any (opsOf Try.f24 11) = q17.T11:=by kernel_rfl
theorem enter_Remember.bits11:waitsOk q17.T11.2 q17.B11 = true:=by kernel_rfl
end Go.Proofs.Ytnomeokicfpidaa.Q
namespace Go.Proofs.Ytnomeokicfpidaa.M
open Go.RowKit Go.Proofs.YtnomeokicfpidaaW.PrintWords Go.Proofs.YtnomeokicfpidaaW.PrintLast Go.Proofs.YtnomeokicfpidaaW.PrintMore Go.Proofs.Ytnomeokicfpidaa.Q Go.Proofs.Ytnomeokicfpidaa.EW
set_option linter.unusedVariables false
def domS (K P:List Int) (z:Int):Nat → Int → Int
 | 0,_=>-1
 | f + 1,x=>if x = -1 then -1 else if rd K x = 1 ∧ x ≠ z ∧ unB P z x = true then x else domS K P z f (rd P x)
def domL (K P:List Int) (a z:Int):Int:=domS K P z (K.length + 1) (rd P a)
section
variable {K P:List Int} (hO:Ok K P)
include hO
theorem domS_spec {z:Int} (z0:0 ≤ z) (z1:z < K.length):∀ (f:Nat) (x:Int),-1 ≤ x → x < K.length → x < f →
  -1 ≤ domS K P z f x ∧ domS K P z f x < K.length ∧ one K (domS K P z f x) = true ∧ Un P x (domS K P z f x) ∧ Un P z (domS K P z f x) ∧ z ≠ domS K P z f x:=by
 have hT:=hO.tree
 have hn:=hO.1
 have top:∀ x:Int,-1 ≤ x → x < K.length → Un P x (-1):=fun x a b=>Un.top hT (K.length) x b a (by omega)
 intro f
 induction f with
 | zero =>
  intro x x0 x1 x2
  rw [domS]
  exact ⟨by omega,by omega,rfl,top x x0 x1,top z (by omega) z1,by omega⟩
 | succ f ih =>
  intro x x0 x1 x2
  rw [domS]
  by_cases e:x = -1
  ·rw [if_pos e]
   exact ⟨by omega,by omega,rfl,top x x0 x1,top z (by omega) z1,by omega⟩
  ·rw [if_neg e]
   by_cases c:rd K x = 1 ∧ x ≠ z ∧ unB P z x = true
   ·rw [if_pos c]
    exact ⟨x0,x1,(one_of (by omega)).2 c.1,.refl _,(unB_iff hT (by omega) (by omega)).1 c.2.2,fun h=>c.2.1 h.symm⟩
   ·rw [if_neg c]
    have hp:=hT.rdP (a:=x) (by omega) (by omega)
    obtain ⟨a1,a2,a3,a4,a5,a6⟩:=ih (rd P x) (by omega) (by omega) (by omega)
    exact ⟨a1,a2,a3,.up (by omega) (by omega) a4,a5,a6⟩
theorem domL_spec {a z:Int} (a0:0 ≤ a) (a1:a < K.length) (z0:0 ≤ z) (z1:z < K.length) :
  -1 ≤ domL K P a z ∧ domL K P a z < a ∧ one K (domL K P a z) = true ∧ Un P a (domL K P a z) ∧ Un P z (domL K P a z) ∧ z ≠ domL K P a z:=by
 have hT:=hO.tree
 have hn:=hO.1
 have hp:=hT.rdP a0 (by omega)
 obtain ⟨b1,b2,b3,b4,b5,b6⟩:=domS_spec hO z0 z1 (K.length + 1) (rd P a) (by omega) (by omega) (by omega)
 have:=b4.le hT
 exact ⟨b1,by unfold domL;omega,b3,.up a0 (by omega) b4,b5,b6⟩
theorem Domain_l0 {z:Int} (z0:0 ≤ z) (z1:z < K.length):∀ (f:Nat) (x:Int),-1 ≤ x → x < K.length → x < f → Ev (fun k=>q19.l0 k z x K P) (domS K P z f x):=by
 have hT:=hO.tree
 have hn:=hO.1
 intro f
 induction f with
 | zero =>
  intro x x0 x1 x2
  refine Ev.step (fun k=>q19.l0.eq_2 ..) ?_
  rw [domS]
  obtain rfl:x = -1:=by omega
  exact Ev.pos rfl (Ev.now _)
 | succ f ih =>
  intro x x0 x1 x2
  refine Ev.step (fun k=>q19.l0.eq_2 ..) ?_
  rw [domS]
  by_cases e:x = -1
  ·subst e
   exact Ev.pos rfl (Ev.now _)
  ·rw [if_neg e]
   have hp:=hT.rdP (a:=x) (by omega) (by omega)
   have nxt:=ih (rd P x) (by omega) (by omega) (by omega)
   refine Ev.neg e (Ev.pos (by omega) (Ev.pos x1 ?_))
   by_cases c1:rd K x = 1
   ·refine Ev.pos c1 ?_
    by_cases c2:x = z
    ·rw [if_neg (fun h=>h.2.1 c2)]
     exact Ev.pos c2 (Ev.pos (by omega) nxt)
    ·refine Ev.neg c2 (Ev.bd (Under_f hn hT z0 z1 x0 x1) ?_)
     by_cases u:unB P z x = true
     ·rw [if_pos ⟨c1,c2,u⟩]
      exact Ev.pos u (Ev.now _)
     ·rw [if_neg (fun h=>u h.2.2)]
      exact Ev.neg u (Ev.pos (by omega) nxt)
   ·rw [if_neg (fun h=>c1 h.1)]
    exact Ev.neg c1 (Ev.pos (by omega) nxt)
theorem Domain_f {a z:Int} (a0:0 ≤ a) (a1:a < K.length) (z0:0 ≤ z) (z1:z < K.length):Ev (fun k=>q19.f k K P a z) (domL K P a z):=by
 have hn:=hO.1
 have hp:=hO.tree.rdP a0 (by omega)
 have h:=Domain_l0 hO z0 z1 (K.length + 1) (rd P a) (by omega) (by omega) (by omega)
 unfold q19.f q16.f
 refine Ev.cg (f:=fun k=>q19.j0 k a z false K P) ?_ (fun k=>?_)
 ·refine Ev.step (fun k=>q19.j0.eq_2 ..) ?_
  exact Ev.neg (by simp) (Ev.pos a0 (Ev.pos (by omega) h))
 ·rw [if_pos (by omega),if_pos (by omega),Option.bind_some,Option.bind_some,if_pos (by simpa using a1),decide_eq_true z1];rfl
end
end Go.Proofs.Ytnomeokicfpidaa.M
namespace Go.Proofs.Ytnomeokicfpidaa.M
open Go.RowKit Go.Proofs.YtnomeokicfpidaaW.PrintWords Go.Proofs.YtnomeokicfpidaaW.PrintLast Go.Proofs.YtnomeokicfpidaaW.PrintMore Go.Proofs.Ytnomeokicfpidaa.Q
set_option linter.unusedVariables false
theorem of_l2 (l:List Int) (hl:l.length < 17592186044416) (P:List Int):∀ (d i:Nat) (K:List Int),i + d = K.length → Inv2 K P i → K.length = max 1 (min l.length 12) →
  Ex (fun k=>q14.l2 k K P (P.length:Int) (i:Int)) (OfPost l):=by
 intro d
 induction d with
 | zero =>
  intro i K hi h hn
  refine ⟨(K,P,K,P),Ev.ret (fun k=>?_),h.done (by omega),rfl,rfl,hn⟩
  have:=h.1
  simp only [q14.l2]
  rw [if_neg (by omega)]
  exact copy2 K P (by omega) (by omega)
 | succ d ih =>
  intro i K hi h hn
  have hP:=h.1
  by_cases hc:P.getD i 0 = 0 ∧ 3 ≤ K.getD i 0
  ·have ih':=ih (i + 1) (K.set i 1) (by rw [List.length_set];omega) (h.turn (by omega) hc.1 hc.2) (by rw [List.length_set];exact hn)
   refine Ex.st ih' (fun k=>?_)
   simp only [q14.l2]
   rw [if_pos (by omega),if_pos (by omega),if_pos (by omega),rd_nat,if_pos hc.1,if_pos (by omega),rd_nat,if_pos (show K.getD i 0 ≥ 3 from hc.2),w1 i (by omega),Int.toNat_natCast]
  ·refine Ex.st (ih (i + 1) K (by omega) (h.keep hc) hn) (fun k=>?_)
   simp only [q14.l2]
   rw [if_pos (by omega),if_pos (by omega),if_pos (by omega),rd_nat,rd_nat,w1 i (by omega)]
   by_cases h0:P.getD i 0 = 0
   ·rw [if_pos h0,if_pos (by omega),if_neg (fun h3=>hc ⟨h0,h3⟩)]
   ·rw [if_neg h0]
theorem of_j7 (l:List Int) (hl:l.length < 17592186044416) (K P:List Int) (h:Inv K P) (hn:K.length = max 1 (min l.length 12)) (b:Bool) :
  Ex (fun k=>q14.j7 k K P b) (OfPost l):=by
 have h1:=h.2.1
 have hP:=h.1
 cases b with
 | true =>
  refine Ex.st (of_l2 l hl P (K.set 0 2).length 0 (K.set 0 2) (by omega) (Inv2.start h) (by rw [List.length_set];exact hn)) (fun k=>?_)
  simp only [q14.j7]
  rw [if_pos trivial,if_pos (by omega)];rfl
 | false =>
  refine ⟨(K,P,K,P),Ev.ret (fun k=>?_),h,rfl,rfl,hn⟩
  simp only [q14.j7]
  rw [if_neg (by simp)]
  exact copy2 K P (by omega) (by omega)
theorem of_fin (l:List Int) (hl:l.length < 17592186044416) (K P:List Int) (h:Inv K P) (hn:K.length = max 1 (min l.length 12)) (i:Int) :
  Ex (fun k=>q14.j1 k l K P i false) (OfPost l):=by
 by_cases h0:(l.length:Int) > 0
 ·refine Ex.st (of_j7 l hl K P h hn ((Int.tmod (rd l 0) 3) == 0)) (fun k=>?_)
  simp only [q14.j1]
  rw [if_neg (by simp),if_pos h0,if_pos (by omega)]
 ·refine Ex.st (of_j7 l hl K P h hn false) (fun k=>?_)
  simp only [q14.j1]
  rw [if_neg (by simp),if_neg h0]
def Next (l:List Int) (i:Nat):Prop:=∀ K P:List Int,Inv K P → K.length = i + 1 → Ex (fun k=>q14.l0 k l K P ((i + 1:Nat):Int)) (OfPost l)
theorem of_l1 (l:List Int) (i:Nat) (hi1:i < l.length) (hi:i < 12) (K P:List Int) (h:Inv K P) (hn:K.length = i) (p:Int) (hp0:-1 ≤ p) (hp1:p < K.length) (hp:p = -1 ∨ solidB (rd K p) = true) (next:Next l i) :
  ∀ (d j:Nat) (x:Int),j + d = P.length → 1 ≤ x → x ≤ 4 → (3 ≤ x → p ≠ -1 ∧ rd K p = 1 ∧ ∃ m,m < K.length ∧ P.getD m 0 = p ∧ solidB (K.getD m 0) = true) →
   Ex (fun k=>q14.l1 k l K P (i:Int) p x (P.length:Int) (j:Int)) (OfPost l):=by
 have hP:=h.1
 intro d
 induction d with
 | zero =>
  intro j x hj hx1 hx4 hx
  refine Ex.st (next (K ++ [x]) (P ++ [p]) (h.app hx1 hx4 hp0 hp1 hp hx) (by simp;omega)) (fun k=>?_)
  simp only [q14.l1]
  rw [if_neg (by omega),if_pos (by omega),if_pos (by omega),w1 i (by omega)]
 | succ d ih =>
  intro j x hj hx1 hx4 hx
  have same:=ih (j + 1) x (by omega) hx1 hx4 hx
  have hw:=w1 j (by omega)
  by_cases c1:P.getD j 0 = p
  ·by_cases c2:K.getD j 0 ≤ 2
   ·by_cases c3:p ≥ 0
    ·by_cases c4:rd K p = 1
     ·have hv:=Int.emod_nonneg (wrap64 (Int.tdiv (rd l (i:Int)) 96)) (show (2:Int) ≠ 0 by omega)
      have hv':=Int.emod_lt_of_pos (wrap64 (Int.tdiv (rd l (i:Int)) 96)) (show (0:Int) < 2 by omega)
      obtain ⟨v,hev⟩:∃ v,wrap64 (Int.tdiv (rd l (i:Int)) 96) % 2 = v:=⟨_,rfl⟩
      rw [hev] at hv hv'
      obtain ⟨a1,_⟩:=okS_iff.1 (h.2.2.1 j (by omega))
      refine Ex.st (ih (j + 1) (3 + v) (by omega) (by omega) (by omega) (fun _=>⟨by omega,c4,j,by omega,c1,solidB_iff.2 (by omega)⟩)) (fun k=>?_)
      simp only [q14.l1]
      rw [if_pos (by omega),if_pos (by omega),if_pos (by omega),rd_nat,if_pos c1,if_pos (by omega),rd_nat,if_pos c2,if_pos c3,if_pos c3,if_pos (by omega),if_pos c4,if_pos (by omega),if_pos (by omega),within_f _ _ (by omega) (by omega),Option.bind_some,hev,w64 (x:=3 + v) (by omega) (by omega),hw]
     ·refine Ex.st same (fun k=>?_)
      simp only [q14.l1]
      rw [if_pos (by omega),if_pos (by omega),if_pos (by omega),rd_nat,if_pos c1,if_pos (by omega),rd_nat,if_pos c2,if_pos c3,if_pos c3,if_pos (by omega),if_neg c4,hw]
    ·refine Ex.st same (fun k=>?_)
     simp only [q14.l1]
     rw [if_pos (by omega),if_pos (by omega),if_pos (by omega),rd_nat,if_pos c1,if_pos (by omega),rd_nat,if_pos c2,if_neg c3,hw]
   ·refine Ex.st same (fun k=>?_)
    simp only [q14.l1]
    rw [if_pos (by omega),if_pos (by omega),if_pos (by omega),rd_nat,if_pos c1,if_pos (by omega),rd_nat,if_neg c2,hw]
  ·refine Ex.st same (fun k=>?_)
   simp only [q14.l1]
   rw [if_pos (by omega),if_pos (by omega),if_pos (by omega),rd_nat,if_neg c1,hw]
theorem of_j3 (l:List Int) (i:Nat) (hi1:i < l.length) (hi:i < 12) (K P:List Int) (h:Inv K P) (hn:K.length = i) (p:Int) (hp0:-1 ≤ p) (hp1:p < K.length) (hp:p = -1 ∨ solidB (rd K p) = true) (next:Next l i) :
  Ex (fun k=>q14.j3 k l K P (i:Int) p) (OfPost l):=by
 have hP:=h.1
 have hw:=w1 i (by omega)
 obtain ⟨t,ht⟩:∃ t,wrap64 (Int.tdiv (rd l (i:Int)) 16) % 6 = t:=⟨_,rfl⟩
 have j5:∀ b:Bool,Ex (fun k=>q14.j5 k l K P (i:Int) p 1 b) (OfPost l):=by
  intro b
  cases b with
  | true =>
   refine Ex.st (of_l1 l i hi1 hi K P h hn p hp0 hp1 hp next P.length 0 1 (by omega) (by omega) (by omega) (fun h=>by omega)) (fun k=>?_)
   simp only [q14.j5]
   rw [if_pos trivial];rfl
  | false =>
   refine Ex.st (next (K ++ [1]) (P ++ [p]) (h.app (by omega) (by omega) hp0 hp1 hp (fun h=>by omega)) (by simp;omega)) (fun k=>?_)
   simp only [q14.j5]
   rw [if_neg (by simp),if_pos (by omega),if_pos (by omega),hw]
 have j4:∀ b:Bool,Ex (fun k=>q14.j4 k l K P (i:Int) p 1 t b) (OfPost l):=by
  intro b
  cases b with
  | true =>
   refine Ex.st (next (K ++ [2]) (P ++ [p]) (h.app (by omega) (by omega) hp0 hp1 hp (fun h=>by omega)) (by simp;omega)) (fun k=>?_)
   simp only [q14.j4]
   rw [if_pos trivial,if_pos (by omega),if_pos (by omega),hw]
  | false =>
   by_cases h2:t = 2
   ·refine Ex.st (j5 (t == 2)) (fun k=>?_)
    simp only [q14.j4]
    rw [if_neg (by simp),if_pos h2]
   ·refine Ex.st (j5 (t == 3)) (fun k=>?_)
    simp only [q14.j4]
    rw [if_neg (by simp),if_neg h2]
 by_cases h0:t = 0
 ·refine Ex.st (j4 (t == 0)) (fun k=>?_)
  simp only [q14.j3]
  rw [if_pos (by omega),if_pos (by omega),within_f _ _ (by omega) (by omega),Option.bind_some,ht,if_pos h0]
 ·refine Ex.st (j4 (t == 1)) (fun k=>?_)
  simp only [q14.j3]
  rw [if_pos (by omega),if_pos (by omega),within_f _ _ (by omega) (by omega),Option.bind_some,ht,if_neg h0]
theorem of_l0 (l:List Int) (hl:l.length < 17592186044416):∀ (d i:Nat) (K P:List Int),Inv K P → K.length = i → i ≤ max 1 (min l.length 12) → i + d = max 1 (min l.length 12) →
  Ex (fun k=>q14.l0 k l K P (i:Int)) (OfPost l):=by
 intro d
 induction d with
 | zero =>
  intro i K P h hn hi hd
  refine Ex.st (of_fin l hl K P h (by omega) (i:Int)) (fun k=>?_)
  simp only [q14.l0]
  by_cases hlt:(i:Int) < (l.length:Int)
  ·rw [if_pos hlt,decide_eq_false (by omega)]
  ·rw [if_neg hlt]
 | succ d ih =>
  intro i K P h hn hi hd
  have h1:=h.2.1
  have next:Next l i:=fun K' P' h' hn'=>ih (i + 1) K' P' h' hn' (by omega) (by omega)
  obtain ⟨v,hv⟩:∃ v,rd l (i:Int) % ((i + 1:Nat):Int) = v:=⟨_,rfl⟩
  have hv0:=Int.emod_nonneg (rd l (i:Int)) (show ((i + 1:Nat):Int) ≠ 0 by omega)
  have hv1:=Int.emod_lt_of_pos (rd l (i:Int)) (show 0 < ((i + 1:Nat):Int) by omega)
  rw [hv] at hv0 hv1
  have hwv:wrap64 (v - 1) = v - 1:=w64 (by omega) (by omega)
  have j2:∀ b:Bool,(b = false → v - 1 = -1 ∨ solidB (rd K (v - 1)) = true) → Ex (fun k=>q14.j2 k l K P (i:Int) (v - 1) b) (OfPost l):=by
   intro b hb
   cases b with
   | true =>
    refine Ex.st (of_j3 l i (by omega) (by omega) K P h hn (-1) (by omega) (by omega) (.inl rfl) next) (fun k=>?_)
    simp only [q14.j2]
    rw [if_pos trivial]
   | false =>
    refine Ex.st (of_j3 l i (by omega) (by omega) K P h hn (v - 1) (by omega) (by omega) (hb rfl) next) (fun k=>?_)
    simp only [q14.j2]
    rw [if_neg (by simp)]
  have j1:Ex (fun k=>q14.j1 k l K P (i:Int) true) (OfPost l):=by
   by_cases hc:v - 1 ≥ 0
   ·refine Ex.st (j2 (decide (rd K (v - 1) ≥ 3)) (fun hb=>?_)) (fun k=>?_)
    ·have h3:=of_decide_eq_false hb
     right
     obtain ⟨a,_⟩:=okS_iff.1 (h.2.2.1 (v - 1).toNat (by omega))
     exact solidB_iff.2 (by unfold rd at h3 ⊢;omega)
    ·simp only [q14.j1]
     rw [if_pos trivial,if_pos (by omega),if_pos (by omega),w1 i (by omega),within_f _ _ (by omega) (by omega),Option.bind_some,hv,hwv,if_pos hc,if_pos hc,if_pos (by omega)]
   ·refine Ex.st (j2 false (fun _=>.inl (by omega))) (fun k=>?_)
    simp only [q14.j1]
    rw [if_pos trivial,if_pos (by omega),if_pos (by omega),w1 i (by omega),within_f _ _ (by omega) (by omega),Option.bind_some,hv,hwv,if_neg hc]
  refine Ex.st j1 (fun k=>?_)
  simp only [q14.l0]
  rw [if_pos (by omega),decide_eq_true (by omega)]
theorem Inv.one:Inv [1] [-1]:=by
 refine ⟨rfl,by simp,fun i hi=>?_,fun i hi h3=>?_,rfl,rfl⟩
 ·obtain rfl:i = 0:=by simp at hi;exact hi
  decide
 ·obtain rfl:i = 0:=by simp at hi;exact hi
  simp at h3
theorem of_f (l:List Int) (hl:l.length < 17592186044416):Ex (fun k=>q14.f k l) (OfPost l):=by
 unfold q14.f
 exact of_l0 l hl (max 1 (min l.length 12) - 1) 1 [1] [-1] Inv.one rfl (by omega) (by omega)
end Go.Proofs.Ytnomeokicfpidaa.M
namespace Go.Proofs.Ytnomeokicfpidaa.Pure
open Go.RowKit Go.Proofs.YtnomeokicfpidaaW.PrintWords Go.Proofs.YtnomeokicfpidaaW.PrintLast Go.Proofs.YtnomeokicfpidaaW.PrintMore Go.Proofs.Ytnomeokicfpidaa.Q Go.Proofs.Ytnomeokicfpidaa.M Go.Proofs.Ytnomeokicfpidaa.EW
set_option linter.unusedVariables false
theorem BL.len {K P:List Int} {a:Int} {R:List Int} (h:BL K P a R):R.length ≤ K.length + 1:=pigeon h.nd (fun x hx=>by have:=h.el x hx;omega)
section
variable {K P:List Int} (hI:Inv K P) (h12:K.length ≤ 12)
include hI h12
theorem new_LP {c:Nat} (hLP:LP K P (-1) c) {d:Int} (d0:-1 ≤ d) (hd:one K d = true) (hdc:d = -1 ∨ (0 ≤ d ∧ c.testBit d.toNat = true)) {E:List Int} (hB:BL K P d E) {s:Nat}
  (hs:∀ j:Nat,s.testBit j = true ↔ (c.testBit j = true ∧ ¬ ((j:Int) ≠ d ∧ Un P (j:Int) d)) ∨ (j:Int) ∈ E):LP K P (-1) s:=by
 have hO:=hI.ok (by omega)
 have hT:=hO.tree
 have hn:=hO.1
 have inE:∀ j:Nat,(j:Int) ∈ E → (j:Int) ≠ d ∧ Un P (j:Int) d:=fun j hj=>⟨(hB.el _ hj).2.2.2.2,(hB.el _ hj).2.2.2.1⟩
 have kE:∀ x:Int,Un P x d → ∀ m ∈ kids P x,s.testBit m.toNat = true ↔ m ∈ E:=by
  intro x hx m hm
  obtain ⟨m0,m1,m2⟩:=mem_kids_rd hm
  have hu:=(Un.kid1 hm).trans hx
  have hne:m ≠ d:=by
   have:=hT.rdP m0 m1
   have:=hx.le hT
   omega
  have em:((m.toNat:Nat):Int) = m:=by omega
  rw [hs,em]
  constructor
  ·rintro (h|h)
   ·exact absurd ⟨hne,hu⟩ h.2
   ·exact h
  ·exact .inr
 have kC:∀ x:Int,¬ Un P x d → ∀ m ∈ kids P x,s.testBit m.toNat = c.testBit m.toNat:=by
  intro x hx m hm
  obtain ⟨m0,m1,m2⟩:=mem_kids_rd hm
  have em:((m.toNat:Nat):Int) = m:=by omega
  have hno:¬ (m ≠ d ∧ Un P m d):=by
   rintro ⟨h1,h2⟩
   have:=(h2.cases' h1).2.2
   rw [m2] at this
   exact hx this
  rw [Bool.eq_iff_iff,hs,em]
  constructor
  ·rintro (h|h)
   ·exact h.1
   ·have:=inE m.toNat (by rw [em];exact h)
    rw [em] at this
    exact absurd this hno
  ·intro h;exact .inl ⟨h,hno⟩
 have hel:∀ x:Int,(x = -1 ∨ (0 ≤ x ∧ s.testBit x.toNat = true)) → heldB K P s x (one K x) = true:=by
  intro x hx
  by_cases hu:Un P x d
  ·by_cases e:x = d
   ·rw [hold_iff (kE x hu),e];exact hB.own
   ·have hx0:0 ≤ x:=(hu.cases' e).1
    have hb:s.testBit x.toNat = true:=by
     rcases hx with h|h
     ·omega
     ·exact h.2
    have ex:((x.toNat:Nat):Int) = x:=by omega
    rw [hs,ex] at hb
    rw [hold_iff (kE x hu)]
    rcases hb with h|h
    ·exact absurd ⟨e,hu⟩ h.2
    ·exact hB.hel x h
  ·rw [heldB_congr (kC x hu)]
   rcases hx with rfl|⟨x0,hb⟩
   ·exact hLP.own
   ·have ex:((x.toNat:Nat):Int) = x:=by omega
    rw [hs,ex] at hb
    rcases hb with h|h
    ·have:=hLP.all x.toNat h.1
     rw [ex] at this;exact this
    ·exact absurd (inE x.toNat (by rw [ex];exact h)).2 (by rw [ex];exact hu)
 have htop:∀ j:Nat,j < K.length → Un P (j:Int) (-1):=fun j hj=>Un.top hT (j + 1) (j:Int) (by omega) (by omega) (by omega)
 refine ⟨fun j hj=>?_,hel (-1) (.inl rfl),fun j hj=>hel (j:Int) (.inr ⟨by omega,by rw [Int.toNat_natCast];exact hj⟩)⟩
 rcases (hs j).1 hj with ⟨hb,hno⟩|hE
 ·obtain ⟨c1,c2,c3,c4,c5⟩:=hLP.mem j hb
  refine ⟨c1,c2,c3,c4,?_⟩
  rcases c5 with h|⟨h0,h1⟩
  ·exact .inl h
  ·right
   refine ⟨h0,(hs _).2 (.inl ⟨h1,?_⟩)⟩
   rw [show (((P.getD j 0).toNat:Nat):Int) = P.getD j 0 by omega]
   rintro ⟨g1,g2⟩
   refine hno ⟨?_,.up (by omega) (by omega) (by rw [rd_nat];exact g2)⟩
   have:=hT j (by omega)
   have:=g2.le hT
   omega
 ·obtain ⟨x0,x1,x2,x3,x4⟩:=hB.el _ hE
  refine ⟨by omega,by omega,htop j (by omega),by rw [← rd_nat];exact x2,?_⟩
  rcases hB.par hE with h|h
  ·rw [rd_nat] at h
   rcases hdc with e|⟨e0,e1⟩
   ·exact .inl (h.trans e)
   ·right
    rw [h]
    refine ⟨e0,(hs _).2 (.inl ⟨e1,?_⟩)⟩
    rw [show ((d.toNat:Nat):Int) = d by omega]
    exact fun g=>g.1 rfl
  ·right
   have hp:=(hB.el _ h).1
   rw [rd_nat] at h hp
   exact ⟨hp,(hs _).2 (.inr (by rw [show (((P.getD j 0).toNat:Nat):Int) = P.getD j 0 by omega];exact h))⟩
end
section
variable {K P:List Int} (hI:Inv K P) (h12:K.length ≤ 12) (c x y:Nat) (hc:c < 4294967296) (hx:x < 4294967296) (hy:y < 4294967296) {z d:Int} (left E:List Int)
include hI h12 hc hx hy
omit hy in
theorem prop_j6 (hy:y < 4294967296) (hnew:∀ s:Nat,(∀ j:Nat,s.testBit j = true ↔ (c.testBit j = true ∧ ¬ x.testBit j = true) ∨ y.testBit j = true) → LP K P (-1) s):Ev (fun k=>q2.j6 k (c:Int) (x:Int) (y:Int) true K P) true:=by
 have hO:=hI.ok (by omega)
 have hn:=hO.1
 have hp:∀ j,j < K.length → -1 ≤ P.getD j 0 ∧ P.getD j 0 < K.length:=fun j hj=>by
  have:=hI.tree j (by omega)
  omega
 obtain ⟨hB,_⟩:=start_BL hO
 have hl:=BL.len hB
 have hst:q24.f K P = some (startL K P):=by
  unfold q24.f
  rw [if_pos ⟨hI.valid (by omega),by omega⟩]
 have h32:∀ x ∈ startL K P,0 ≤ x ∧ x < 32:=fun x hx=>by have:=hB.el x hx;omega
 have htb:∀ j:Nat,(bs (startL K P) 0).testBit j = true ↔ (j:Int) ∈ startL K P:=fun j=>by
  rw [tb_bs (fun x hx=>(h32 x hx).1)];simp
 have hpr:properB K P (bs (startL K P) 0) = true:=(proper_LP hI _).2 (BL.LP hO hB htb)
 have hsl:andN c x ||| y < 4294967296:=Nat.or_lt_two_pow (n:=32) (andN_lt hc) hy
 have hpn:properB K P (andN c x ||| y) = true:=(proper_LP hI _).2 (hnew _ (fun j=>by rw [Nat.testBit_or,Bool.or_eq_true,tb_andN hc hx]))
 refine Ev.step (fun k=>q2.j6.eq_2 ..) ?_
 rw [M.u32_andNot c x hc hx,M.u32_or _ y (andN_lt hc) hy,hst]
 exact Ev.pos rfl (Ev.bd (Proper_f K P hn (by omega) hp _ hsl) (Ev.pos hpn (Ev.som (Ev.bd (bits_f _ (by omega) h32) (Ev.bd (Proper_f K P hn (by omega) hp _ (bs_lt h32)) (Ev.pos hpr (Ev.bd wakes7_f (Ev.now _))))))))
theorem prop_l2 (hnew:∀ s:Nat,(∀ j:Nat,s.testBit j = true ↔ (c.testBit j = true ∧ ¬ x.testBit j = true) ∨ y.testBit j = true) → LP K P (-1) s) (z0:0 ≤ z) (z1:z < K.length) (hz:solidB (rd K z) = true → y.testBit z.toNat = true)
  (hso:left.Pairwise (fun a b=>b < a)) (hl:left.length < 1000):∀ (e i:Nat),i + e = left.length →
  Ev (fun k=>q2.l2 k z (c:Int) left (x:Int) (y:Int) left (left.length:Int) (i:Int) K P) true:=by
 have hO:=hI.ok (by omega)
 have fin:=prop_j6 hI h12 c x y hc hx hy hnew
 intro e
 induction e with
 | zero =>
  intro i hi
  refine Ev.step (fun k=>q2.l2.eq_2 ..) ?_
  refine Ev.neg (by omega) (Ev.pos z0 (Ev.pos z1 ?_))
  by_cases h3:rd K z ≥ 3
  ·exact Ev.pos h3 fin
  ·have hb:=hz ((solid_of hO z0 z1).2 (by omega))
   obtain ⟨j,rfl⟩:∃ j:Nat,z = (j:Int):=⟨z.toNat,by omega⟩
   rw [Int.toNat_natCast] at hb
   rw [u64w j (by omega),bit1 y j hy,if_pos hb]
   exact Ev.neg h3 (Ev.pos (by omega) fin)
 | succ e ih =>
  intro i hi
  have nxt:=ih (i + 1) (by omega)
  refine Ev.step (fun k=>q2.l2.eq_2 ..) ?_
  rw [w1 i (by omega)]
  refine Ev.pos (by omega) (Ev.pos (by omega) (Ev.pos (by omega) ?_))
  by_cases h0:(i:Int) > 0
  ·rw [w64 (x:=(i:Int) - 1) (by omega) (by omega),show (i:Int) - 1 = ((i - 1:Nat):Int) by omega]
   refine Ev.pos h0 (Ev.pos (by omega) (Ev.pos (by omega) (Ev.neg ?_ nxt)))
   rw [rd_nat,rd_nat,List.getD_eq_getElem?_getD,List.getD_eq_getElem?_getD,List.getElem?_eq_getElem (by omega),List.getElem?_eq_getElem (show i - 1 < left.length by omega)]
   have:=List.pairwise_iff_getElem.1 hso (i - 1) i (by omega) (by omega) (by omega)
   simp only [Option.getD_some]
   omega
  ·exact Ev.neg h0 nxt
omit hI h12 hc hx hy in
theorem prop_l1 (p:Int) (i:Nat) (next:Ev (fun k=>q2.l0 k z (c:Int) d left E (x:Int) (y:Int) E (E.length:Int) ((i + 1:Nat):Int) K P) true) (hi:i < 1000) (L:List Int) (hl:L.length < 1000) :
  ∀ (rest pre:List Int) (b:Bool),L = pre ++ rest → (b = true ∨ p ∈ rest) →
  Ev (fun k=>q2.l1 k z (c:Int) d left E (x:Int) (y:Int) p b E (E.length:Int) (i:Int) L (L.length:Int) (pre.length:Int) K P) true:=by
 intro rest
 induction rest with
 | nil =>
  intro pre b hp hb
  have:L.length = pre.length:=by rw [hp,List.append_nil]
  have hb' : b = true:=hb.resolve_right (by simp)
  refine Ev.step (fun k=>q2.l1.eq_2 ..) ?_
  rw [w1 i (by omega)]
  exact Ev.neg (by omega) (Ev.pos hb' next)
 | cons a rest ih =>
  intro pre b hp hb
  have hlen:L.length = pre.length + (rest.length + 1):=by rw [hp];simp
  have hr:rd L (pre.length:Int) = a:=by
   rw [hp,rd_nat];simp [List.getD_eq_getElem?_getD]
  have hsp:(pre ++ [a]).length = pre.length + 1:=by simp
  refine Ev.step (fun k=>q2.l1.eq_2 ..) ?_
  rw [hr,w1 _ (by omega)]
  refine Ev.pos (by omega) (Ev.pos (by omega) (Ev.pos (by omega) ?_))
  by_cases hbt:b = true
  ·refine Ev.pos hbt ?_
   have:=ih (pre ++ [a]) true (by rw [hp];simp) (.inl rfl)
   rw [hsp] at this;exact this
  ·refine Ev.neg hbt ?_
   have:=ih (pre ++ [a]) (a == p) (by rw [hp];simp) (by
    rcases List.mem_cons.1 (hb.resolve_left hbt) with h|h
    ·exact .inl (beq_iff_eq.2 h.symm)
    ·exact .inr h)
   rw [hsp] at this;exact this
omit hc hx hy in
theorem prop_l0 (hB:BL K P d E) (fin:Ev (fun k=>q2.l2 k z (c:Int) left (x:Int) (y:Int) left (left.length:Int) 0 K P) true) (hl:E.length < 1000):∀ (e i:Nat),i + e = E.length →
  Ev (fun k=>q2.l0 k z (c:Int) d left E (x:Int) (y:Int) E (E.length:Int) (i:Int) K P) true:=by
 have hO:=hI.ok (by omega)
 have hn:=hO.1
 intro e
 induction e with
 | zero =>
  intro i hi
  refine Ev.step (fun k=>q2.l0.eq_2 ..) ?_
  exact Ev.neg (by omega) fin
 | succ e ih =>
  intro i hi
  have nxt:=ih (i + 1) (by omega)
  have hg:rd E (i:Int) = E[i]'(by omega):=by rw [rd_nat,List.getD_eq_getElem?_getD,List.getElem?_eq_getElem (by omega)];rfl
  have hmem:E[i]'(by omega) ∈ E:=List.getElem_mem _
  obtain ⟨v0,v1,v2,v3,v4⟩:=hB.el _ hmem
  have hsplit:E = E.take i ++ E[i]'(by omega) :: E.drop (i + 1):=by
   rw [List.getElem_cons_drop,List.take_append_drop]
  have hord:=hB.ord _ _ _ hsplit
  generalize E[i]'(by omega) = v at hg v0 v1 hord
  refine Ev.step (fun k=>q2.l0.eq_2 ..) ?_
  rw [hg]
  refine Ev.pos (by omega) (Ev.pos (by omega) (Ev.pos (by omega) (Ev.neg (by omega) ?_)))
  rw [decide_eq_false (by omega)]
  refine Ev.step (fun k=>q2.j2.eq_2 ..) ?_
  refine Ev.neg (by simp) (Ev.pos v0 (Ev.pos (by omega) ?_))
  have j3f:∀ p:Int,Ev (fun k=>q2.j3 k z (c:Int) d left E (x:Int) (y:Int) (i:Int) p E (E.length:Int) (i:Int) false K P) true:=fun p=>by
   refine Ev.step (fun k=>q2.j3.eq_2 ..) ?_
   rw [w1 i (by omega)]
   exact Ev.neg (by simp) nxt
  by_cases e1:rd P v = d
  ·exact Ev.pos e1 (j3f _)
  ·refine Ev.neg e1 ?_
   by_cases e2:rd P v ≥ 0
   ·rw [decide_eq_true e2]
    refine Ev.step (fun k=>q2.j3.eq_2 ..) ?_
    rw [Int.toNat_natCast]
    refine Ev.pos rfl (Ev.pos (by omega) (Ev.pos (by omega) (Ev.som ?_)))
    exact prop_l1 c x y left E (rd P v) i nxt (by omega) (E.take i) (by rw [List.length_take];omega) (E.take i) [] false rfl (.inr (hord.resolve_left e1))
   ·rw [decide_eq_false e2];exact j3f _
end
theorem EnterProper (l0 l1:List Int) (a2 a3:Int) (l4:List (List Int)) (_:l0.length ≤ maxLen) (hl0:l0.length * 8 ≤ 140737488351232) (_:∀ x ∈ l0,(Lit.int .i64 x).wf = true) (_:l1.length ≤ maxLen) (_:l1.length * 8 ≤ 140737488351232) (_:∀ x ∈ l1,(Lit.int .i64 x).wf = true) (_:(Lit.int .i64 a2).wf = true) (_:(Lit.int .i64 a3).wf = true) (_:l4.length ≤ maxLen) (_:∀ z ∈ l4,z.length ≤ maxLen ∧ ∀ n ∈ z,(Lit.int .i64 n).wf = true):∃ k,Q.q2.f k l0 l1 a2 a3 l4 = some true:=by
 refine Ev.rounds (r:=true) ?_
 unfold q2.f
 obtain ⟨⟨K,P,K',P'⟩,hE,hI,e1,e2,hlen⟩:=of_f l0 (by omega)
 simp only at hI hlen e1 e2
 subst e1 e2
 refine Ev.bd hE ?_
 simp only
 have hn:=hI.1
 have h12:K'.length ≤ 12:=by omega
 have h1:=hI.2.1
 have hO:=hI.ok (by omega)
 have hT:=hO.tree
 obtain ⟨_,hc,c,rfl,hcl,hLP⟩:=config_f hI (by omega) l1
 have h32:(2:Nat) ^ K'.length ≤ 2 ^ 12:=Nat.pow_le_pow_right (by decide) h12
 have h32' : (2:Nat) ^ K'.length ≤ 4096:=h32
 clear h32
 have hc32:c < 4294967296:=by omega
 refine Ev.bd hc ?_
 rw [within_f a2 _ (by omega) (by omega),within_f a3 _ (by omega) (by omega)]
 have m0:=Int.emod_nonneg a2 (show (K'.length:Int) ≠ 0 by omega)
 have m1:=Int.emod_lt_of_pos a2 (show 0 < (K'.length:Int) by omega)
 generalize a2 % (K'.length:Int) = a at m0 m1
 have z0:=Int.emod_nonneg a3 (show (K'.length:Int) ≠ 0 by omega)
 have z1:=Int.emod_lt_of_pos a3 (show 0 < (K'.length:Int) by omega)
 generalize a3 % (K'.length:Int) = z at z0 z1
 obtain ⟨d0,d1,d2,d3,d4,d5⟩:=domL_spec hO m0 m1 z0 z1
 have hD:=Domain_f hO m0 m1 z0 z1
 generalize domL K' P' a z = d at d0 d1 d2 d3 d4 d5 hD
 obtain ⟨a,rfl⟩:∃ j:Nat,a = (j:Int):=⟨a.toNat,by omega⟩
 refine Ev.som (Ev.som ?_)
 rw [u64w a (by omega),bit1 c a hc32]
 refine Ev.pos (by omega) ?_
 by_cases hb:c.testBit a = true
 ·rw [if_pos hb]
  refine Ev.neg (by omega) (Ev.bd hD (Ev.bd (Leave_f hO (c:Int) d d0 (by omega)) ?_))
  obtain ⟨p,hp,hPQ⟩:=past_f hI (by omega) l4
  have hQ:=hPQ.ok hO
  obtain ⟨hB,hsub⟩:=enter_BL hO hQ z0 z1 d2 d4 d5
  have hl:=BL.len hB
  have hEn:q23.f K' P' d z p = some (enterL K' P' p d z):=by
   unfold q23.f
   rw [if_pos ⟨hI.valid (by omega),z0,z1,by omega⟩]
  have h32:∀ x ∈ enterL K' P' p d z,0 ≤ x ∧ x < 32:=fun x hx=>by have:=hB.el x hx;omega
  have hbl:=below_len K' P' (c:Int) d
  have hlr:∀ x ∈ (belowL K' P' (c:Int) d).reverse,0 ≤ x ∧ x < 32:=fun x hx=>by
   obtain ⟨j,rfl,hj,_⟩:=mem_below.1 (List.mem_reverse.1 hx);omega
  have hll:(belowL K' P' (c:Int) d).reverse.length ≤ K'.length:=by rw [List.length_reverse];exact hbl
  have hso:(belowL K' P' (c:Int) d).reverse.Pairwise (fun a b=>b < a):=List.pairwise_reverse.2 (below_sorted K' P' (c:Int) d)
  have hnd:(belowL K' P' (c:Int) d).reverse.Nodup:=List.Pairwise.imp (fun h=>by omega) hso
  have tx:∀ j:Nat,(bs (belowL K' P' (c:Int) d).reverse 0).testBit j = true ↔ c.testBit j = true ∧ (j:Int) ≠ d ∧ Un P' (j:Int) d:=fun j=>by
   rw [tb_bs (fun x hx=>(hlr x hx).1),Nat.zero_testBit,List.mem_reverse,mem_belowN hO hc32]
   simp only [Bool.false_eq_true,false_or]
   constructor
   ·rintro ⟨j',e,_,h3,h4,h5⟩
    obtain rfl:j = j':=by omega
    exact ⟨h4,h3,h5⟩
   ·rintro ⟨h4,h3,h5⟩
    exact ⟨j,rfl,(hLP.mem j h4).1,h3,h4,h5⟩
  have ty:∀ j:Nat,(bs (enterL K' P' p d z) 0).testBit j = true ↔ (j:Int) ∈ enterL K' P' p d z:=fun j=>by
   rw [tb_bs (fun x hx=>(h32 x hx).1)];simp
  have bx:=bits_f (belowL K' P' (c:Int) d).reverse (by omega) hlr
  have by':=bits_f (enterL K' P' p d z) (by omega) h32
  have cx:=count_f hnd hlr (by omega)
  have cy:=count_f hB.nd h32 (by omega)
  have hx:=bs_lt hlr
  have hy:=bs_lt h32
  refine Ev.bd hp ?_
  rw [hEn]
  refine Ev.som (Ev.bd bx (Ev.bd by' ?_))
  have hdc:d = -1 ∨ (0 ≤ d ∧ c.testBit d.toNat = true):=by
   by_cases e:d = -1
   ·exact .inl e
   ·right
    have:=LP.clos hI hLP d3 (by omega) (by rw [Int.toNat_natCast];exact hb) e (Un.top hT (K'.length) d (by omega) d0 (by omega))
    exact this
  have hzE:solidB (rd K' z) = true → (bs (enterL K' P' p d z) 0).testBit z.toNat = true:=fun hs=>by
   rw [ty,show ((z.toNat:Nat):Int) = z by omega]
   refine hsub z ?_
   rw [inA_solid z0 z1 hs]
   obtain ⟨R,e,_⟩:=inS_BL hO K'.length z z0 z1 (by omega) hs
   rw [e];exact List.mem_cons_self ..
  have hnew:∀ s:Nat,(∀ j:Nat,s.testBit j = true ↔ (c.testBit j = true ∧ ¬ (bs (belowL K' P' (c:Int) d).reverse 0).testBit j = true) ∨ (bs (enterL K' P' p d z) 0).testBit j = true) → LP K' P' (-1) s:=fun s hs=>by
   refine new_LP hI h12 hLP d0 d2 hdc hB (fun j=>?_)
   rw [hs,tx,ty]
   constructor
   ·rintro (⟨g1,g2⟩|g)
    ·exact .inl ⟨g1,fun h=>g2 ⟨g1,h⟩⟩
    ·exact .inr g
   ·rintro (⟨g1,g2⟩|g)
    ·exact .inl ⟨g1,fun h=>g2 h.2⟩
    ·exact .inr g
  have hxa:(bs (belowL K' P' (c:Int) d).reverse 0).testBit a = true:=(tx a).2 ⟨hb,by omega,d3⟩
  have z1' : andN (bs (belowL K' P' (c:Int) d).reverse 0) c = 0:=nat_zero (fun j=>by
   rw [tb_andN hx hc32,tx];exact fun h=>h.2 h.1.1)
  have z2:andN c (bs (belowL K' P' (c:Int) d).reverse 0) &&& bs (enterL K' P' p d z) 0 = 0:=nat_zero (fun j=>by
   rw [Nat.testBit_and,Bool.and_eq_true,tb_andN hc32 hx,tx,ty]
   rintro ⟨⟨g1,g2⟩,g3⟩
   have:=hB.el _ g3
   exact g2 ⟨g1,this.2.2.2.2,this.2.2.2.1⟩)
  generalize hX:bs (belowL K' P' (c:Int) d).reverse 0 = X at cx hx hnew hxa z1' z2
  generalize hY:bs (enterL K' P' p d z) 0 = Y at cy hy hzE hnew z2
  rw [M.u32_andNot X c hx hc32,z1',bit1 X a hx,if_pos hxa,M.u32_andNot c X hc32 hx,M.u32_and _ Y (andN_lt hc32) hy,z2]
  refine Ev.pos rfl (Ev.neg (by omega) (Ev.bd cx (Ev.pos rfl (Ev.bd cy (Ev.pos rfl ?_)))))
  rw [show (((0:Nat):Int) != 0) = false from rfl]
  refine Ev.step (fun k=>q2.j0.eq_2 ..) ?_
  refine Ev.neg (by simp) ?_
  exact prop_l0 hI h12 c X Y _ _ hB (prop_l2 hI h12 c X Y hc32 hx hy _ hnew z0 z1 hzE hso (by omega) (belowL K' P' (c:Int) d).reverse.length 0 (by omega)) (by omega) (enterL K' P' p d z).length 0 (by omega)
 ·rw [if_neg hb]
  exact Ev.pos rfl (Ev.bd wakes7_f (Ev.now _))
end Go.Proofs.Ytnomeokicfpidaa.Pure
namespace Go.Proofs.YtnomeokicfpidaaW.PrintWords
open Go.RowKit Go.ChangeShapes Go.WideShapes Go.Deep
set_option linter.unusedVariables false
theorem getD_map_range {α:Type} (f:Nat → α) (d:α) {n j:Nat} (h:j < n):((List.range n).map f)[j]? = some (f j):=by
 rw [List.getElem?_map,List.getElem?_range h];rfl
theorem open_rows_C {H:Type} {enc:TypeId × Value → H} {P:Program} {w:World} {base:Nat} {held:Bool} {t e q:TypeId} {k:IntKind} {fuel:Nat} {A:Option Addr} {len cap:Nat} {x:DataW H × List MemPlace}
  (ht:P.underlying t = some (.slice e)) (he:P.underlying e = some (.slice q)) (hq:P.underlying q = some (.int k))
  (ce:P.cellsOf e = 1) (cq:P.cellsOf q = 1) (h:DataW.trod enc P w base (fun _=>true) held fuel t (Value.slice A len cap).cells.toList = some x) :
  ∃ l:List (List Int),len = l.length ∧ l.length ≤ cap ∧ l.length ≤ maxLen ∧ Kd.C (Kd.slice q (Kd.int k)) w A l.length l ∧ (∀ z ∈ l,z.length ≤ maxLen ∧ ∀ n ∈ z,(Lit.int k n).wf = true):=by
 rcases open_int_rows ht he hq ce cq h with ⟨hcs,_⟩|⟨a,len',cap',B,L,C,Z,hcs,_,hl,hm,_,hr⟩
 ·simp [Value.cells] at hcs
  obtain ⟨rfl,rfl,rfl⟩:=hcs
  exact ⟨[],rfl,by simp,by simp [maxLen],⟨rfl,by simp,fun h=>by simp at h⟩,by simp⟩
 ·simp [Value.cells] at hcs
  obtain ⟨rfl,rfl,rfl⟩:=hcs
  have hlen:((List.range len).map (fun r=>(Z r).take (L r))).length = len:=by simp
  refine ⟨(List.range len).map (fun r=>(Z r).take (L r)),hlen.symm,by rw [hlen];exact hl,by rw [hlen];omega,?_,?_⟩
  ·rw [hlen]
   refine ⟨hlen,by unfold maxLen at hm;omega,fun _=>⟨a,rfl,fun j p hj=>?_⟩⟩
   have hjl:j < len:=by
    have:=(List.getElem?_eq_some_iff.1 hj).1
    rwa [hlen] at this
   rw [getD_map_range _ ([]:List Int) hjl] at hj
   obtain rfl:=Option.some.inj hj
   obtain ⟨h1,h2,h3,h4,h5,h6,h7⟩:=hr j (by omega)
   have hzl:((Z j).take (L j)).length = L j:=by rw [List.length_take];omega
   refine ⟨[.slice (B j) (L j) (C j)],rfl,⟨B j,C j,by rw [hzl],by omega,?_⟩,fun i u hu=>?_⟩
   ·rw [hzl]
    refine ⟨hzl,by unfold maxLen at h3;omega,fun hpos=>?_⟩
    cases hB:B j with
    | none=>have:=h6 hB;omega
    | some b =>
     refine ⟨b,rfl,fun i p hi=>?_⟩
     have hil:i < L j:=by
      have:=(List.getElem?_eq_some_iff.1 hi).1
      rwa [hzl] at this
     refine ⟨[.int k p],rfl,rfl,fun i' u hu=>?_⟩
     have hc:=(h7 b hB).2 i (by omega)
     rw [List.getElem?_take,if_pos hil] at hi
     rw [List.getD_eq_getElem?_getD,hi] at hc
     cases i' with
     | zero =>
      have:u = .int k p:=(Option.some.inj hu).symm
      rw [this,Nat.add_zero,show i * (Kd.int k).sz = i from Nat.mul_one i];exact hc
     | succ i'=>simp at hu
   ·cases i with
    | zero =>
     have:u = .slice (B j) (L j) (C j):=(Option.some.inj hu).symm
     rw [this,Nat.add_zero,show j * (Kd.slice q (Kd.int k)).sz = j from Nat.mul_one j];exact h1
    | succ i=>simp at hu
  ·intro z hz
   obtain ⟨j,hj,rfl⟩:=List.mem_map.1 hz
   rw [List.mem_range] at hj
   obtain ⟨h1,h2,h3,h4,h5,h6,h7⟩:=hr j (by omega)
   exact ⟨by rw [List.length_take];omega,fun n hn=>h5 n (List.mem_of_mem_take hn)⟩
end Go.Proofs.YtnomeokicfpidaaW.PrintWords
