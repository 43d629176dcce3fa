-- merged and slimmed by slim.py (a program of this repo)
import Derived.Test.YtnomeokicfpidaaKEnterTells13
import Derived.Test.YtnomeokicfpidaaKEnterTells10
import Derived.Test.YtnomeokicfpidaaKEnterTells11
namespace Go.Proofs.Ytnomeokicfpidaa.M
open Go.RowKit Go.Proofs.YtnomeokicfpidaaW.PrintWords Go.Proofs.YtnomeokicfpidaaW.PrintLast Go.Proofs.YtnomeokicfpidaaW.PrintMore Go.Proofs.Ytnomeokicfpidaa.Q
set_option linter.unusedVariables false
theorem rd_mid (pre:List Int) (x:Int) (rest:List Int):rd (pre ++ x :: rest) (pre.length:Int) = x:=by
 rw [rd_nat];simp [List.getD_eq_getElem?_getD]
section
variable {K P:List Int} {ls:List Int} {Q:Int → Prop}
theorem cfg_l2 (T L:List Int) (x6:Int) (hT:T.length + L.length < 1000) (hL:∀ x ∈ L,0 ≤ x ∧ x < 32):∀ (rest pre:List Int) (s:Nat),L = pre ++ rest → s < 4294967296 →
  Ex (fun k=>q16.l0 k ls ((bs rest s:Nat):Int) x6 (T ++ L) K P) Q →
  Ex (fun k=>q16.l2 k ls (s:Int) x6 T L L (L.length:Int) (pre.length:Int) K P) Q:=by
 intro rest
 induction rest with
 | nil =>
  intro pre s hp hs h
  refine Ex.st h (fun k=>?_)
  simp only [q16.l2]
  have:L.length = pre.length:=by rw [hp,List.append_nil]
  rw [if_neg (by omega),if_pos (by omega)];rfl
 | cons x rest ih =>
  intro pre s hp hs h
  have hx:=hL x (by rw [hp];simp)
  have hlen:L.length = pre.length + (rest.length + 1):=by rw [hp];simp
  have hr:rd L (pre.length:Int) = x:=by rw [hp];exact rd_mid pre x rest
  obtain ⟨j,rfl⟩:∃ j:Nat,x = (j:Int):=⟨x.toNat,by omega⟩
  have hb:s ||| 2 ^ j < 4294967296:=Nat.or_lt_two_pow (n:=32) hs (pow_lt32 (by omega))
  refine Ex.st (ih (pre ++ [(j:Int)]) (s ||| 2 ^ j) (by rw [hp];simp) hb h) (fun k=>?_)
  simp only [q16.l2]
  rw [if_pos (by omega),if_pos (by omega),if_pos (by omega),hr,u64w j (by omega),if_pos (by omega),shl_one j (by omega),u32_or s (2 ^ j) hs (pow_lt32 (by omega)),w1 _ (by omega)]
  congr 1
  rw [List.length_append];rfl
theorem cfg_j2 (hI:Inv K P) (h24:K.length ≤ 24) (T L:List Int) (a x6:Int) (h6:0 ≤ x6) (h6' : x6 < 1000) (s:Nat) (hs:s < 4294967296) (hT:T.length < 100) (hL:L = sk K P a)
  (h:∀ (L' : List Int) (x6' : Int),(∀ x ∈ L',x ∈ sk K P a) → L'.Nodup → (sk K P a = [] ∨ (one K a = true ∧ ∃ k,L' = [k]) ∨ (one K a = false ∧ L' = sk K P a)) → 0 ≤ x6' → x6' ≤ x6 + 1 →
   Ex (fun k=>q16.l0 k ls ((bs L' s:Nat):Int) x6' (T ++ L') K P) Q) :
  Ex (fun k=>q16.j2 k ls (s:Int) x6 T L (one K a && decide ((L.length:Int) > 1)) K P) Q:=by
 have hn:=hI.1
 have hin:∀ x ∈ sk K P a,0 ≤ x ∧ x < 32:=fun x hx=>by
  have:=kids_in hn a x (List.mem_filter.1 hx).1
  omega
 have hlen:(sk K P a).length ≤ 24:=Nat.le_trans (List.length_filter_le _ _) (Nat.le_trans (kids_len P a) (by omega))
 have hnd:(sk K P a).Nodup:=List.Pairwise.filter _ (kids_nodup P a)
 subst hL
 have pick:∀ v:Int,one K a = true → (1:Int) < ((sk K P a).length:Int) → Ex (fun k=>q16.j3 k ls (s:Int) (wrap64 (x6 + 1)) T (((sk K P a).take ((wrap64 (v % ((sk K P a).length:Int) + 1)):Int).toNat).drop (v % ((sk K P a).length:Int)).toNat) K P) Q:=by
  intro v ho hl
  have h0:=Int.emod_nonneg v (show ((sk K P a).length:Int) ≠ 0 by omega)
  have h1:=Int.emod_lt_of_pos v (show 0 < ((sk K P a).length:Int) by omega)
  generalize v % ((sk K P a).length:Int) = t at h0 h1
  obtain ⟨i,rfl⟩:∃ i:Nat,t = (i:Int):=⟨t.toNat,by omega⟩
  have hi:i < (sk K P a).length:=by omega
  rw [w1 i (by omega),Int.toNat_natCast,Int.toNat_natCast]
  have e:((sk K P a).take (i + 1)).drop i = [(sk K P a)[i]]:=by
   rw [List.take_succ_eq_append_getElem hi,List.drop_append_of_le_length (by rw [List.length_take];omega),List.drop_eq_nil_of_le (by rw [List.length_take];omega)];rfl
  rw [e]
  have hm:(sk K P a)[i] ∈ sk K P a:=List.getElem_mem hi
  have w6:wrap64 (x6 + 1) = x6 + 1:=w64 (by omega) (by omega)
  rw [w6]
  refine Ex.st (cfg_l2 T [(sk K P a)[i]] (x6 + 1) (by simp only [List.length_singleton];omega) (fun x hx=>by rw [List.mem_singleton] at hx;rw [hx];exact hin _ hm) [(sk K P a)[i]] [] s rfl hs
   (h [(sk K P a)[i]] (x6 + 1) (fun x hx=>by rw [List.mem_singleton] at hx;rw [hx];exact hm) (by simp) (.inr (.inl ⟨ho,_,rfl⟩)) (by omega) (by omega))) (fun k=>?_)
  simp only [q16.j3];rfl
 by_cases hc:one K a = true ∧ ((sk K P a).length:Int) > 1
 ·rw [hc.1,Bool.true_and,decide_eq_true hc.2]
  by_cases hv:x6 < (ls.length:Int)
  ·refine Ex.st (pick (rd ls x6) hc.1 hc.2) (fun k=>?_)
   simp only [q16.j2]
   have h0:=Int.emod_nonneg (rd ls x6) (show ((sk K P a).length:Int) ≠ 0 by omega)
   have h1:=Int.emod_lt_of_pos (rd ls x6) (show 0 < ((sk K P a).length:Int) by omega)
   have hw:wrap64 (rd ls x6 % ((sk K P a).length:Int) + 1) = rd ls x6 % ((sk K P a).length:Int) + 1:=w64 (by omega) (by omega)
   rw [if_pos trivial,if_pos hv,if_pos h6,within_f _ _ (by omega) (by omega),Option.bind_some,hw,if_pos h0,if_pos (by omega),if_pos (by omega)]
  ·have hp0:=pick 0 hc.1 hc.2
   have hw0:q20.f 0 ((sk K P a).length:Int) = some (0 % ((sk K P a).length:Int)):=within_f _ _ (by omega) (by omega)
   rw [Int.zero_emod] at hp0 hw0
   refine Ex.st hp0 (fun k=>?_)
   simp only [q16.j2]
   have hw:wrap64 (0 + 1) = 1:=w64 (by omega) (by omega)
   rw [if_pos trivial,if_neg hv,hw0,Option.bind_some,hw,if_pos (Int.le_refl 0),if_pos (by decide),if_pos (by omega)]
 ·have hf:(one K a && decide (((sk K P a).length:Int) > 1)) = false:=by
   cases ho:one K a with
   | false=>rfl
   | true=>rw [decide_eq_false (fun e=>hc ⟨ho,e⟩)];rfl
  rw [hf]
  have hcase:sk K P a = [] ∨ (one K a = true ∧ ∃ k,sk K P a = [k]) ∨ (one K a = false ∧ sk K P a = sk K P a):=by
   cases ho:one K a with
   | false=>exact .inr (.inr ⟨rfl,rfl⟩)
   | true =>
    have hl:(sk K P a).length ≤ 1:=by
     have:¬ ((sk K P a).length:Int) > 1:=fun e=>hc ⟨ho,e⟩
     omega
    match hS:sk K P a with
    | []=>exact .inl rfl
    | [k]=>exact .inr (.inl ⟨rfl,k,rfl⟩)
    | _ :: _ :: _=>rw [hS] at hl;simp at hl
  refine Ex.st (f:=fun k=>q16.j3 k ls (s:Int) x6 T (sk K P a) K P) (Ex.st (cfg_l2 T (sk K P a) x6 (by omega) hin (sk K P a) [] s rfl hs (h (sk K P a) x6 (fun x hx=>hx) hnd hcase h6 (by omega))) (fun k=>?_)) (fun k=>?_)
  ·simp only [q16.j3];rfl
  ·simp only [q16.j2]
   rw [if_neg (by simp)]
theorem cfg_l1 (hI:Inv K P) (h24:K.length ≤ 24) (T:List Int) (a x6:Int) (ha:a < K.length) (h6:0 ≤ x6) (h6' : x6 < 1000) (s:Nat) (hs:s < 4294967296) (hT:T.length < 100)
  (h:∀ (L' : List Int) (x6' : Int),(∀ x ∈ L',x ∈ sk K P a) → L'.Nodup → (sk K P a = [] ∨ (one K a = true ∧ ∃ k,L' = [k]) ∨ (one K a = false ∧ L' = sk K P a)) → 0 ≤ x6' → x6' ≤ x6 + 1 →
   Ex (fun k=>q16.l0 k ls ((bs L' s:Nat):Int) x6' (T ++ L') K P) Q) (ha1:-1 ≤ a) :
  ∀ (rest pre acc:List Int),kids P a = pre ++ rest → acc = pre.filter (fun x=>solidB (rd K x)) →
  Ex (fun k=>q16.l1 k ls (s:Int) x6 T a acc (kids P a) ((kids P a).length:Int) (pre.length:Int) K P) Q:=by
 have hn:=hI.1
 have hkl:=kids_len P a
 intro rest
 induction rest with
 | nil =>
  intro pre acc hp hacc
  rw [List.append_nil] at hp
  have ea:acc = sk K P a:=by rw [hacc,← hp];rfl
  have hl:(kids P a).length = pre.length:=by rw [hp]
  have hj:=cfg_j2 hI h24 T acc a x6 h6 h6' s hs hT ea h
  by_cases h0:a < 0
  ·refine Ex.st hj (fun k=>?_)
   simp only [q16.l1]
   rw [if_neg (by omega),if_pos h0,show one K a = true by rw [show a = -1 by omega];rfl,Bool.true_and]
  ·have eo:one K a = (rd K a == 1):=by unfold one;rw [show (a == -1) = false from beq_eq_false_iff_ne.mpr (by omega)];rfl
   by_cases h1:rd K a = 1
   ·refine Ex.st hj (fun k=>?_)
    simp only [q16.l1]
    rw [if_neg (by omega),if_neg h0,if_pos (by omega),if_pos (by omega),if_pos h1,eo,h1];rfl
   ·refine Ex.st hj (fun k=>?_)
    simp only [q16.l1]
    rw [if_neg (by omega),if_neg h0,if_pos (by omega),if_pos (by omega),if_neg h1,eo,show (rd K a == 1) = false from beq_eq_false_iff_ne.mpr h1];rfl
 | cons x rest ih =>
  intro pre acc hp hacc
  have hlen:(kids P a).length = pre.length + (rest.length + 1):=by rw [hp];simp
  have hr:rd (kids P a) (pre.length:Int) = x:=by rw [hp];exact rd_mid pre x rest
  have hx:=kids_in hn a x (by rw [hp];simp)
  have hal:acc.length ≤ pre.length:=by rw [hacc];exact List.length_filter_le _ _
  have hok:=okS_iff.1 (hI.2.2.1 x.toNat (by omega))
  have er:K.getD x.toNat 0 = rd K x:=rfl
  rw [er] at hok
  by_cases hx2:rd K x ≤ 2
  ·have hsol:solidB (rd K x) = true:=solidB_iff.2 (by omega)
   refine Ex.st (ih (pre ++ [x]) (acc ++ [x]) (by rw [hp];simp) (by rw [hacc,List.filter_append,List.filter_cons,if_pos hsol];rfl)) (fun k=>?_)
   simp only [q16.l1]
   rw [if_pos (by omega),if_pos (by omega),if_pos (by omega),hr,if_pos (by omega),if_pos (by omega),if_pos hx2,if_pos (by omega),w1 _ (by omega),List.length_append];rfl
  ·have hsol:¬ solidB (rd K x) = true:=fun e=>by have:=solidB_iff.1 e;omega
   refine Ex.st (ih (pre ++ [x]) acc (by rw [hp];simp) (by rw [hacc,List.filter_append,List.filter_cons,if_neg hsol];simp)) (fun k=>?_)
   simp only [q16.l1]
   rw [if_pos (by omega),if_pos (by omega),if_pos (by omega),hr,if_pos (by omega),if_pos (by omega),if_neg hx2,w1 _ (by omega),List.length_append];rfl
end
theorem cfg_l0 {K P:List Int} (hI:Inv K P) (h24:K.length ≤ 24) (ls:List Int):∀ (d:Nat) (D T:List Int) (s:Nat) (x6:Int),d + D.length = K.length + 1 → CI K P D T s → 0 ≤ x6 → x6 ≤ D.length →
  Ex (fun k=>q16.l0 k ls (s:Int) x6 T K P) (fun c=>∃ s:Nat,c = s ∧ s < 2 ^ K.length ∧ LP K P (-1) s):=by
 have hn:=hI.1
 intro d
 induction d with
 | zero =>
  intro D T s x6 hd hC h0 h1
  have:=hC.len hI
  have hT:T = []:=List.length_eq_zero_iff.1 (by omega)
  subst hT
  refine ⟨s,Ev.ret (fun k=>?_),s,rfl,hC.lt hI,hC.done hI⟩
  simp only [q16.l0]
  rw [if_neg (by simp)]
 | succ d ih =>
  intro D T s x6 hd hC h0 h1
  cases T with
  | nil =>
   refine ⟨s,Ev.ret (fun k=>?_),s,rfl,hC.lt hI,hC.done hI⟩
   simp only [q16.l0]
   rw [if_neg (by simp)]
  | cons a T =>
   have hlen:=hC.len hI
   have hs:s < 4294967296:=Nat.lt_of_lt_of_le (hC.lt hI) (Nat.pow_le_pow_right (by decide) (show K.length ≤ 32 by omega))
   rw [List.length_cons] at hlen
   have ha:-1 ≤ a ∧ a < K.length:=by
    rcases hC.el a (List.mem_append_right _ (List.mem_cons_self ..)) with e|⟨e,f,_⟩ <;> omega
   refine Ex.st (f:=fun k=>(q7.f k K P a).bind fun t109=>(q16.l1 k ls (s:Int) x6 T a ([]:List Int) t109 (t109.length:Int) 0 K P)) (Ex.bd (rKids_f K P a (by omega)) ?_) (fun k=>?_)
   ·refine cfg_l1 hI h24 T a x6 ha.2 h0 (by omega) s hs (by omega) ?_ ha.1 (kids P a) [] [] rfl rfl
    intro L' x6' hL hd' hc a0 a1
    have hp:∀ x ∈ L',0 ≤ x:=fun x hx=>(kids_in hn a x (List.mem_filter.1 (hL x hx)).1).1
    refine ih (D ++ [a]) (T ++ L') (bs L' s) x6' (by rw [List.length_append];simp;omega) (hC.step hI hL hd' hc (fun j=>tb_bs hp)) a0 (by rw [List.length_append];simp;omega)
   ·simp only [q16.l0]
    rw [if_pos (by simp only [List.length_cons];omega),if_pos (by simp only [List.length_cons];omega),if_pos (by simp only [List.length_cons];omega)]
    rfl
theorem config_f {K P:List Int} (hI:Inv K P) (h24:K.length ≤ 24) (ls:List Int) :
  Ex (fun k=>q16.f k K P ls) (fun c=>∃ s:Nat,c = s ∧ s < 2 ^ K.length ∧ LP K P (-1) s):=by
 refine cfg_l0 hI h24 ls (K.length + 1) [] [-1] 0 0 rfl ⟨by simp,fun x hx=>.inl (by simpa using hx),fun j=>?_,fun x hx=>(List.not_mem_nil hx).elim,by simp⟩ (by omega) (by simp)
 rw [Nat.zero_testBit]
 simp
end Go.Proofs.Ytnomeokicfpidaa.M
namespace Go.Proofs.Ytnomeokicfpidaa.M
open Go.RowKit Go.Proofs.YtnomeokicfpidaaW.PrintWords Go.Proofs.YtnomeokicfpidaaW.PrintLast Go.Proofs.YtnomeokicfpidaaW.PrintMore Go.Proofs.Ytnomeokicfpidaa.Q Go.Proofs.Ytnomeokicfpidaa.EW
set_option linter.unusedVariables false
theorem Ex.step {α:Type} {g f:Nat → Option α} {Q:α → Prop} (e:∀ k,g (k + 1) = f k) (h:Ex f Q):Ex g Q:=Ex.st h e
theorem Ex.pos {α:Type} {c:Prop} [Decidable c] {f g:Nat → Option α} {Q:α → Prop} (h:c) (k:Ex f Q):Ex (fun n=>if c then f n else g n) Q:=by simpa [h] using k
theorem Ex.neg {α:Type} {c:Prop} [Decidable c] {f g:Nat → Option α} {Q:α → Prop} (h:¬ c) (k:Ex g Q):Ex (fun n=>if c then f n else g n) Q:=by simpa [h] using k
theorem Ex.now {α:Type} {r:α} {Q:α → Prop} (h:Q r):Ex (fun _=>some r) Q:=⟨r,Ev.now r,h⟩
theorem Ex.xbd {α β:Type} {g:Nat → Option α} {f:Nat → α → Option β} {Q:β → Prop} {R:α → Prop} (h:Ex g R) (k:∀ a,R a → Ex (fun n=>f n a) Q):Ex (fun n=>(g n).bind (fun x=>f n x)) Q:=by
 obtain ⟨a,ha,hr⟩:=h
 exact Ex.bd ha (k a hr)
theorem Ex.som {α β:Type} {f:Nat → α → Option β} {a:α} {Q:β → Prop} (k:Ex (fun n=>f n a) Q):Ex (fun n=>(some a).bind (fun x=>f n x)) Q:=k
theorem and1_lt {x c k:Nat} (hx:x < 4294967296) (hc:c < 4294967296):x ||| (c &&& 2 ^ k) < 4294967296 :=
 Nat.or_lt_two_pow (n:=32) hx (Nat.lt_of_le_of_lt Nat.and_le_left hc)
theorem and1_lt' {c k:Nat} (hc:c < 4294967296):c &&& 2 ^ k < 4294967296:=Nat.lt_of_le_of_lt Nat.and_le_left hc
theorem tb_and1 {x c k j:Nat}:(x ||| (c &&& 2 ^ k)).testBit j = true ↔ x.testBit j = true ∨ (j = k ∧ c.testBit j = true):=by
 rw [Nat.testBit_or,Nat.testBit_and,Nat.testBit_two_pow,Bool.or_eq_true,Bool.and_eq_true,decide_eq_true_eq]
 constructor
 ·rintro (h|⟨h,e⟩)
  ·exact .inl h
  ·exact .inr ⟨e.symm,h⟩
 ·rintro (h|⟨e,h⟩)
  ·exact .inl h
  ·exact .inr ⟨h,e.symm⟩
def PE (K P:List Int) (i:Nat) (q:Nat):Prop:=q < 4294967296 ∧ (q = 0 ∨ ∃ s:Nat,s < 4294967296 ∧ LP K P (-1) s ∧ s.testBit i = true ∧ ∀ j:Nat,q.testBit j = true ↔ j < K.length ∧ (j:Int) ≠ i ∧ Un P (j:Int) i ∧ s.testBit j = true)
def PQ (K P Q:List Int):Prop:=Q.length ≤ K.length ∧ ∀ i:Nat,i < Q.length → ∃ q:Nat,Q.getD i 0 = (q:Int) ∧ PE K P i q
theorem PQ.app {K P Q:List Int} (h:PQ K P Q) (hl:Q.length < K.length) {q:Nat} (hq:PE K P Q.length q):PQ K P (Q ++ [(q:Int)]):=by
 refine ⟨by simp;omega,fun i hi=>?_⟩
 rw [List.length_append,List.length_singleton] at hi
 by_cases e:i = Q.length
 ·exact ⟨q,getD_app_r e,e ▸ hq⟩
 ·rw [getD_app_l (by omega)]
  exact h.2 i (by omega)
theorem past_l1 {K P:List Int} (hn:P.length = K.length) (hT:Tree P) (h24:K.length ≤ 24) (ls:List (List Int)) (Q:List Int) (i c:Nat) (hQ:Q.length < 1000) (hi:i < K.length) (hc:c < 4294967296) (hci:c < 2 ^ K.length) {Post:List Int → Prop}
  (next:∀ q:Nat,q < 4294967296 → (∀ j:Nat,q.testBit j = true ↔ j < K.length ∧ (j:Int) ≠ i ∧ Un P (j:Int) i ∧ c.testBit i = true ∧ c.testBit j = true) → Ex (fun k=>q21.l0 k ls (Q ++ [(q:Int)]) ((i + 1:Nat):Int) K P) Post) :
  ∀ (d x q:Nat),x + d = K.length → q < 4294967296 → (∀ j:Nat,q.testBit j = true ↔ j < x ∧ (j:Int) ≠ i ∧ Un P (j:Int) i ∧ c.testBit i = true ∧ c.testBit j = true) →
  Ex (fun k=>q21.l1 k ls Q (i:Int) (q:Int) (c:Int) (K.length:Int) (x:Int) K P) Post:=by
 intro d
 induction d with
 | zero =>
  intro x q hx hq hb
  refine Ex.step (fun k=>q21.l1.eq_2 ..) ?_
  refine Ex.neg (by omega) (Ex.pos (by omega) ?_)
  rw [w1 i (by omega)]
  exact next q hq (fun j=>by rw [hb,show x = K.length by omega])
 | succ d ih =>
  intro x q hx hq hb
  have keep:¬ ((x:Int) ≠ i ∧ Un P (x:Int) i ∧ c.testBit i = true ∧ c.testBit x = true) → Ex (fun k=>q21.l1 k ls Q (i:Int) (q:Int) (c:Int) (K.length:Int) ((x + 1:Nat):Int) K P) Post:=fun h=>by
   refine ih (x + 1) q (by omega) hq (fun j=>?_)
   rw [hb]
   constructor
   ·rintro ⟨a,b⟩;exact ⟨by omega,b⟩
   ·rintro ⟨a,b⟩
    refine ⟨?_,b⟩
    by_cases e:j = x
    ·subst e;exact absurd b h
    ·omega
  refine Ex.step (fun k=>q21.l1.eq_2 ..) ?_
  refine Ex.pos (by omega) ?_
  rw [w1 x (by omega),u64w i (by omega),u64w x (by omega)]
  by_cases e:(x:Int) = i
  ·exact Ex.pos e (keep (fun h=>h.1 e))
  ·refine Ex.neg e (Ex.bd (rUnder_f hn hT (by omega) (by omega) (by omega) (by omega)) ?_)
   by_cases u:unB P (x:Int) i = true
   ·refine Ex.pos u (Ex.pos (by omega) ?_)
    rw [bit1 c i hc]
    by_cases hbi:c.testBit i = true
    ·refine Ex.pos (by rw [if_pos hbi]) (Ex.pos (by omega) ?_)
     rw [shl_one x (by omega),u32_and c _ hc (pow_lt32 (by omega)),u32_or q _ hq (and1_lt' hc)]
     refine ih (x + 1) _ (by omega) (and1_lt hq hc) (fun j=>?_)
     rw [tb_and1,hb]
     have u':=(unB_iff hT (by omega) (by omega)).1 u
     constructor
     ·rintro (⟨a,b⟩|⟨rfl,b⟩)
      ·exact ⟨by omega,b⟩
      ·exact ⟨by omega,e,u',hbi,b⟩
     ·rintro ⟨a,b,c',d',e'⟩
      by_cases g:j = x
      ·exact .inr ⟨g,e'⟩
      ·exact .inl ⟨by omega,b,c',d',e'⟩
    ·exact Ex.neg (by rw [if_neg hbi];simp) (keep (fun h=>hbi h.2.2.1))
   ·exact Ex.neg u (keep (fun h=>u ((unB_iff hT (by omega) (by omega)).2 h.2.1)))
theorem past_l0 {K P:List Int} (hI:Inv K P) (h24:K.length ≤ 24) (ls:List (List Int)):∀ (d i:Nat) (Q:List Int),i + d = K.length → Q.length = i → PQ K P Q →
  Ex (fun k=>q21.l0 k ls Q (i:Int) K P) (PQ K P):=by
 have hn:=hI.1
 have hT:=hI.tree
 have h32:(2:Nat) ^ K.length ≤ 2 ^ 24:=Nat.pow_le_pow_right (by decide) h24
 have h32' : (2:Nat) ^ K.length ≤ 16777216:=h32
 clear h32
 intro d
 induction d with
 | zero =>
  intro i Q hi hl hQ
  refine Ex.step (fun k=>q21.l0.eq_2 ..) ?_
  refine Ex.neg (by omega) (Ex.step (fun k=>q21.j1.eq_2 ..) ?_)
  exact Ex.neg (by simp) (Ex.now hQ)
 | succ d ih =>
  intro i Q hi hl hQ
  have nxt:∀ q:Nat,PE K P i q → Ex (fun k=>q21.l0 k ls (Q ++ [(q:Int)]) ((i + 1:Nat):Int) K P) (PQ K P):=fun q hq =>
   ih (i + 1) (Q ++ [(q:Int)]) (by omega) (by simp [hl]) (hQ.app (by omega) (hl ▸ hq))
  have zero:Ex (fun k=>q21.j2 k ls Q (i:Int) 0 false K P) (PQ K P):=by
   refine Ex.step (fun k=>q21.j2.eq_2 ..) ?_
   refine Ex.neg (by simp) (Ex.pos (by omega) ?_)
   rw [w1 i (by omega)]
   exact nxt 0 ⟨by decide,.inl rfl⟩
  refine Ex.step (fun k=>q21.l0.eq_2 ..) ?_
  refine Ex.pos (by omega) (Ex.step (fun k=>q21.j1.eq_2 ..) ?_)
  by_cases hm:(i:Int) < (ls.length:Int)
  ·refine Ex.pos (decide_eq_true hm) (Ex.pos (by omega) (Ex.pos hm ?_))
   by_cases hp:((rd_L2 ls (i:Int)).length:Int) > 0
   ·refine Ex.pos hp (Ex.pos hp ?_)
    by_cases h3:(Int.tmod (rd (rd_L2 ls (i:Int)) 0) 3 != 0) = true
    ·rw [h3]
     refine Ex.step (fun k=>q21.j2.eq_2 ..) ?_
     refine Ex.pos rfl (Ex.pos (by omega) (Ex.pos hm (Ex.xbd (config_f hI h24 (rd_L2 ls (i:Int))) ?_)))
     rintro _ ⟨c,rfl,hc,hLP⟩
     refine past_l1 hn hT h24 ls Q i c (by omega) (by omega) (by omega) hc (fun q hq hb=>nxt q ⟨hq,?_⟩) K.length 0 0 (by omega) (by decide) (fun j=>by simp)
     by_cases hci:c.testBit i = true
     ·right
      exact ⟨c,by omega,hLP,hci,fun j=>by rw [hb];simp [hci]⟩
     ·left
      refine Nat.eq_of_testBit_eq (fun j=>?_)
      rw [Nat.zero_testBit]
      exact eq_false_of_ne_true (fun h=>hci ((hb j).1 h).2.2.2.1)
    ·rw [eq_false_of_ne_true h3];exact zero
   ·exact Ex.neg hp zero
  ·refine Ex.neg (by rw [decide_eq_false hm];simp) (Ex.now hQ)
theorem past_f {K P:List Int} (hI:Inv K P) (h24:K.length ≤ 24) (ls:List (List Int)):Ex (fun k=>q21.f k K P ls) (PQ K P):=by
 unfold q21.f
 exact past_l0 hI h24 ls K.length 0 [] (by omega) rfl ⟨by simp,fun i hi=>by simp at hi⟩
theorem below_congr {K P:List Int} {s s' a:Int} (h:∀ j:Nat,j < K.length → (j:Int) ≠ a → unB P j a = true → inB s j = inB s' j):belowL K P s a = belowL K P s' a:=by
 unfold belowL belowFrom
 congr 1
 refine List.filter_congr (fun j hj=>?_)
 have hj' : j < K.length:=by have:=List.mem_range'_1.1 hj;omega
 by_cases e:(j:Int) = a
 ·simp [e]
 ·by_cases u:unB P j a = true
  ·rw [h j hj' e u]
  ·simp [u]
theorem wasS_nat (Q:List Int) (i:Nat):wasS Q (i:Int) = if i < Q.length then Q.getD i 0 else 0:=by
 unfold wasS
 rw [if_neg (by omega)]
 by_cases h:i < Q.length
 ·rw [if_neg (by omega),if_pos h,rd_nat]
 ·rw [if_pos (by omega),if_neg h]
theorem inB_zero (j:Nat):inB 0 (j:Int) = false:=by
 have:=inB_nat 0 j (by decide)
 rw [Nat.zero_testBit] at this;exact this
theorem below_zero (K P:List Int) (a:Int):belowL K P 0 a = []:=by
 cases h:belowL K P 0 a with
 | nil=>rfl
 | cons x L =>
  have:x ∈ belowL K P 0 a:=by rw [h];simp
  obtain ⟨j,rfl,_,_,h3,_⟩:=mem_below.1 this
  rw [inB_zero] at h3;cases h3
theorem PE.ok {K P:List Int} (hO:Ok K P) {i q:Nat} (h:PE K P i q):belowL K P (q:Int) (i:Int) = [] ∨ BL K P (i:Int) (belowL K P (q:Int) (i:Int)):=by
 have hn:=hO.1
 obtain ⟨hq,rfl|⟨s,hs,hLP,hi,hb⟩⟩:=h
 ·exact .inl (below_zero K P _)
 ·right
  rw [below_congr (s':=(s:Int)) (fun j hj e u=>?_)]
  ·exact LP.below hO hLP hs (.inr ⟨by omega,by rw [Int.toNat_natCast];exact hi⟩)
  ·rw [inB_nat q j hq,inB_nat s j hs,Bool.eq_iff_iff,hb]
   exact ⟨fun h=>h.2.2.2,fun h=>⟨hj,e,(unB_iff hO.tree (by omega) (by omega)).1 u,h⟩⟩
theorem PQ.ok {K P Q:List Int} (hO:Ok K P) (h:PQ K P Q):PastOk K P Q:=by
 intro i h0 h1
 obtain ⟨i,rfl⟩:∃ j:Nat,i = (j:Int):=⟨i.toNat,by omega⟩
 rw [wasS_nat]
 by_cases hi:i < Q.length
 ·rw [if_pos hi]
  obtain ⟨q,e,hq⟩:=h.2 i hi
  rw [e];exact hq.ok hO
 ·rw [if_neg hi];exact .inl (below_zero K P _)
theorem PQ.nil (K P:List Int):PQ K P []:=⟨by simp,fun i hi=>by simp at hi⟩
def remB (K P:List Int) (a:Int):Bool:=(kids P a).any (fun k=>decide (3 ≤ rd K k))
theorem remembers_l0 {K P:List Int} (hO:Ok K P) (L:List Int) (hl:L.length < 1000000) (hL:∀ x ∈ L,0 ≤ x ∧ x < K.length):∀ (rest pre:List Int),L = pre ++ rest →
  Ev (fun k=>q24.l0 k L (L.length:Int) (pre.length:Int) K P) (rest.any (fun k=>decide (3 ≤ rd K k))):=by
 intro rest
 induction rest with
 | nil =>
  intro pre hp
  have:L.length = pre.length:=by rw [hp,List.append_nil]
  refine Ev.step (fun k=>q24.l0.eq_2 ..) ?_
  exact Ev.neg (by omega) (Ev.now _)
 | cons x rest ih =>
  intro pre hp
  have hx:=hL x (by rw [hp];simp)
  have hlen:L.length = pre.length + (rest.length + 1):=by rw [hp];simp
  have hr:rd L (pre.length:Int) = x:=by
   rw [hp,rd_nat];simp [List.getD_eq_getElem?_getD]
  have h4:=rd_range hO hx.1 hx.2
  refine Ev.step (fun k=>q24.l0.eq_2 ..) ?_
  rw [hr,w1 _ (by omega)]
  refine Ev.pos (by omega) (Ev.pos (by omega) (Ev.pos (by omega) (Ev.pos hx.1 (Ev.pos hx.2 ?_))))
  rw [List.any_cons]
  by_cases h3:3 ≤ rd K x
  ·rw [decide_eq_true h3,Bool.true_or]
   by_cases e:rd K x = 3
   ·exact Ev.pos e (Ev.now _)
   ·exact Ev.neg e (Ev.pos (by omega) (Ev.now _))
  ·rw [decide_eq_false h3,Bool.false_or]
   refine Ev.neg (by omega) (Ev.neg (by omega) ?_)
   have:=ih (pre ++ [x]) (by rw [hp];simp)
   rw [List.length_append] at this
   exact this
theorem remembers_f {K P:List Int} (hO:Ok K P) {a:Int} (h0:0 ≤ a) (h1:a < K.length):Ev (fun k=>q24.f k K P a) (remB K P a):=by
 have h24:=hO.2.2.2.2
 have hn:=hO.1
 have hk:=kids_len P a
 unfold q24.f
 refine Ev.neg (by omega) (Ev.step (fun k=>q24.j0.eq_2 ..) ?_)
 refine Ev.neg (by rw [decide_eq_false (by omega)];simp) (Ev.bd (Kids_f K P a (by omega)) ?_)
 exact remembers_l0 hO _ (by omega) (fun x hx=>by have:=hO.kid hx;omega) (kids P a) [] rfl
def remS (K P:List Int) (c:Int) (left Q:List Int) (i:Nat):Int:=if (i:Int) ∈ left ∧ remB K P (i:Int) = true then ((bs (belowL K P c (i:Int)) 0:Nat):Int) else wasS Q (i:Int)
theorem rem_l1 {K P:List Int} (c:Int) (left:List Int) (j a:Nat) (B L:List Int) (hB:B.length < 1000) (ha:a < B.length) (hL:∀ x ∈ L,0 ≤ x ∧ x < 32) (hl:L.length < 1000) (hj:j < 100000) {Post:List Int → Prop}
  (next:Ex (fun k=>q26.l0 k c (B.set a ((bs L 0:Nat):Int)) left (left.length:Int) ((j + 1:Nat):Int) K P) Post) :
  ∀ (rest pre:List Int) (s:Nat),L = pre ++ rest → bs rest s = bs L 0 → s < 4294967296 →
  Ex (fun k=>q26.l1 k c (B.set a (s:Int)) (a:Int) left (left.length:Int) (j:Int) L (L.length:Int) (pre.length:Int) K P) Post:=by
 intro rest
 induction rest with
 | nil =>
  intro pre s hp hb hs
  have:L.length = pre.length:=by rw [hp,List.append_nil]
  refine Ex.step (fun k=>q26.l1.eq_2 ..) ?_
  refine Ex.neg (by omega) ?_
  rw [w1 j (by omega)]
  have e:s = bs L 0:=hb
  rw [e];exact next
 | cons x rest ih =>
  intro pre s hp hb hs
  have hx:=hL x (by rw [hp];simp)
  have hlen:L.length = pre.length + (rest.length + 1):=by rw [hp];simp
  have hr:rd L (pre.length:Int) = x:=by
   rw [hp,rd_nat];simp [List.getD_eq_getElem?_getD]
  obtain ⟨i,rfl⟩:∃ i:Nat,x = (i:Int):=⟨x.toNat,by omega⟩
  have hs' : s ||| 2 ^ i < 4294967296:=Nat.or_lt_two_pow (n:=32) hs (pow_lt32 (by omega))
  have hrd:rd (B.set a (s:Int)) (a:Int) = (s:Int):=by
   rw [rd_nat,getD_set ha,if_pos rfl]
  refine Ex.step (fun k=>q26.l1.eq_2 ..) ?_
  rw [hr,hrd,shl_one i (by omega),u32_or s _ hs (pow_lt32 (by omega)),w1 _ (by omega),Int.toNat_natCast,List.set_set]
  refine Ex.pos (by omega) (Ex.pos (by omega) (Ex.pos (by omega) (Ex.pos (by omega) (Ex.pos (by rw [List.length_set];omega) (Ex.pos (by omega) ?_)))))
  have:=ih (pre ++ [(i:Int)]) (s ||| 2 ^ i) (by rw [hp];simp) hb hs'
  rw [List.length_append] at this
  exact this
theorem rem_l0 {K P:List Int} (hO:Ok K P) (c:Int) (left Q:List Int) (hl:left.length < 1000) (hL:∀ x ∈ left,0 ≤ x ∧ x < K.length):∀ (rest pre:List Int) (B:List Int),left = pre ++ rest → B.length = K.length → (∀ i:Nat,i < K.length → B.getD i 0 = remS K P c pre Q i) →
  Ex (fun k=>q26.l0 k c B left (left.length:Int) (pre.length:Int) K P) (fun out=>out.length = K.length ∧ ∀ i:Nat,i < K.length → out.getD i 0 = remS K P c left Q i):=by
 have hn:=hO.1
 have h24:=hO.2.2.2.2
 intro rest
 induction rest with
 | nil =>
  intro pre B hp hB hb
  have:left.length = pre.length:=by rw [hp,List.append_nil]
  refine Ex.step (fun k=>q26.l0.eq_2 ..) ?_
  refine Ex.neg (by omega) (Ex.now ⟨hB,fun i hi=>?_⟩)
  rw [hb i hi,hp,List.append_nil]
 | cons x rest ih =>
  intro pre B hp hB hb
  have hx:=hL x (by rw [hp];simp)
  have hlen:left.length = pre.length + (rest.length + 1):=by rw [hp];simp
  have hr:rd left (pre.length:Int) = x:=by
   rw [hp,rd_nat];simp [List.getD_eq_getElem?_getD]
  obtain ⟨a,rfl⟩:∃ i:Nat,x = (i:Int):=⟨x.toNat,by omega⟩
  refine Ex.step (fun k=>q26.l0.eq_2 ..) ?_
  rw [hr]
  refine Ex.pos (by omega) (Ex.pos (by omega) (Ex.pos (by omega) (Ex.bd (remembers_f hO hx.1 hx.2) ?_)))
  by_cases hm:remB K P (a:Int) = true
  ·refine Ex.pos hm (Ex.pos (by omega) (Ex.pos (by omega) (Ex.bd (below_f hn hO.tree (by omega) c (a:Int) (by omega) hx.2) ?_)))
   rw [Int.toNat_natCast]
   have hbl:=below_len K P c (a:Int)
   have:=rem_l1 (K:=K) (P:=P) (Post:=fun out=>out.length = K.length ∧ ∀ i:Nat,i < K.length → out.getD i 0 = remS K P c left Q i) c left pre.length a B (belowL K P c (a:Int)) (by omega) (by omega) (fun x hx=>by
    obtain ⟨j,rfl,hj,_⟩:=mem_below.1 hx;omega) (by omega) (by omega) ?_ (belowL K P c (a:Int)) [] 0 rfl rfl (by decide)
   ·exact this
   ·have:=ih (pre ++ [(a:Int)]) (B.set a ((bs (belowL K P c (a:Int)) 0:Nat):Int)) (by rw [hp];simp) (by rw [List.length_set];exact hB) (fun i hi=>?_)
    ·rw [List.length_append] at this
     exact this
    ·rw [getD_set (by omega)]
     unfold remS
     by_cases e:a = i
     ·subst e
      rw [if_pos rfl,if_pos ⟨by simp,hm⟩]
     ·rw [if_neg e,hb i hi]
      unfold remS
      by_cases g:(i:Int) ∈ pre ∧ remB K P (i:Int) = true
      ·rw [if_pos g,if_pos ⟨List.mem_append_left _ g.1,g.2⟩]
      ·rw [if_neg g,if_neg (fun h=>g ⟨?_,h.2⟩)]
       rcases List.mem_append.1 h.1 with h'|h'
       ·exact h'
       ·have:=List.mem_singleton.1 h';omega
  ·refine Ex.neg hm ?_
   rw [w1 _ (by omega)]
   have:=ih (pre ++ [(a:Int)]) B (by rw [hp];simp) hB (fun i hi=>?_)
   ·rw [List.length_append] at this
    exact this
   ·rw [hb i hi]
    unfold remS
    by_cases g:(i:Int) ∈ pre ∧ remB K P (i:Int) = true
    ·rw [if_pos g,if_pos ⟨List.mem_append_left _ g.1,g.2⟩]
    ·rw [if_neg g,if_neg (fun h=>g ⟨?_,h.2⟩)]
     rcases List.mem_append.1 h.1 with h'|h'
     ·exact h'
     ·have:=List.mem_singleton.1 h'
      exact absurd (this ▸ h.2) hm
theorem Remember_f {K P:List Int} (hO:Ok K P) (c:Int) (left Q:List Int) (hl:left.length < 1000) (hL:∀ x ∈ left,0 ≤ x ∧ x < K.length) (hQ:Q.length ≤ K.length) :
  Ex (fun k=>q26.f k K P c left Q) (fun out=>out.length = K.length ∧ ∀ i:Nat,i < K.length → out.getD i 0 = remS K P c left Q i):=by
 have h24:=hO.2.2.2.2
 unfold q26.f
 refine Ex.pos (by omega) (Ex.pos (by omega) (Ex.som ?_))
 have e:Q.take (min Q.length (List.replicate ((K.length:Int)).toNat (0:Int)).length) ++ (List.replicate ((K.length:Int)).toNat (0:Int)).drop (min Q.length (List.replicate ((K.length:Int)).toNat (0:Int)).length) = Q ++ List.replicate (K.length - Q.length) 0:=by
  rw [List.length_replicate,Int.toNat_natCast,Nat.min_eq_left hQ,List.take_length,List.drop_replicate]
 rw [e]
 refine rem_l0 hO c left Q hl hL left [] _ rfl (by simp;omega) (fun i hi=>?_)
 unfold remS
 rw [if_neg (by simp),wasS_nat]
 by_cases h:i < Q.length
 ·rw [if_pos h,getD_app_l h]
 ·rw [if_neg h,List.getD_eq_getElem?_getD,List.getElem?_append_right (by omega),List.getElem?_replicate]
  split <;> rfl
theorem rem_eq {n:Nat} {f:Nat → Int} {A B:List Int} (ha:A.length = n ∧ ∀ i:Nat,i < n → A.getD i 0 = f i) (hb:B.length = n ∧ ∀ i:Nat,i < n → B.getD i 0 = f i):A = B:=by
 refine List.ext_getElem (ha.1.trans hb.1.symm) (fun i h1 h2=>?_)
 have h:=(ha.2 i (by omega)).trans (hb.2 i (by omega)).symm
 rw [List.getD_eq_getElem?_getD,List.getD_eq_getElem?_getD,List.getElem?_eq_getElem h1,List.getElem?_eq_getElem h2] at h
 exact h
end Go.Proofs.Ytnomeokicfpidaa.M
namespace Go.Proofs.Ytnomeokicfpidaa.Q
open Go.RowKit Go.Proofs.YtnomeokicfpidaaW.PrintWords Go.Proofs.YtnomeokicfpidaaW.PrintLast Go.Proofs.YtnomeokicfpidaaW.PrintMore
attribute [local go_sem] max2_int min2_int max_two min_two max_three min_three max_four min_four
set_option linter.unusedVariables false
set_option linter.unusedSimpArgs false
mutual
def q28.j0:Nat → Int → Int → Bool → List Int → List Int → Option (Int)
 | 0,_,_,_,_,_=>none
 | k + 1,x1,x2,x17,x102000,x102001=>if x17 = true then (some (-1)) else (if 0 ≤ x1 then (if x1 < (x102001.length:Int) then (q28.l0 k x2 (rd x102001 x1) x102000 x102001) else (none)) else (none))
def q28.l0:Nat → Int → Int → List Int → List Int → Option (Int)
 | 0,_,_,_,_=>none
 | k + 1,x2,x7,x102000,x102001=>if x7 = (-1) then (some x7) else (if 0 ≤ x7 then (if x7 < (x102000.length:Int) then (if (rd x102000 x7) = 1 then (if x7 = x2 then (if x7 < (x102001.length:Int) then (q28.l0 k x2 (rd x102001 x7) x102000 x102001) else (none)) else ((q31.f k x102000 x102001 x2 x7).bind fun t107=>(if t107 = true then (some x7) else (if x7 < (x102001.length:Int) then (q28.l0 k x2 (rd x102001 x7) x102000 x102001) else (none))))) else (if x7 < (x102001.length:Int) then (q28.l0 k x2 (rd x102001 x7) x102000 x102001) else (none))) else (none)) else (none))
end
def q28.f (k:Nat) (l0_0:List Int) (l0_1:List Int) (a1:Int) (a2:Int):Option (Int):=(q25.f l0_0 l0_1 a1).bind fun t102=>(if t102 = true then ((q25.f l0_0 l0_1 a2).bind fun t103=>(q28.j0 k a1 a2 (!t103) l0_0 l0_1)) else (q28.j0 k a1 a2 true l0_0 l0_1))
end Go.Proofs.Ytnomeokicfpidaa.Q
namespace Go.Proofs.Ytnomeokicfpidaa.M
open Go.RowKit Go.Proofs.YtnomeokicfpidaaW.PrintWords Go.Proofs.YtnomeokicfpidaaW.PrintLast Go.Proofs.YtnomeokicfpidaaW.PrintMore Go.Proofs.Ytnomeokicfpidaa.Q Go.Proofs.Ytnomeokicfpidaa.EW
set_option linter.unusedVariables false
def domS (K P:List Int) (z:Int):Nat → Int → Int
 | 0,_=>-1
 | f + 1,x=>if x = -1 then -1 else if rd K x = 1 ∧ x ≠ z ∧ unB P z x = true then x else domS K P z f (rd P x)
def domL (K P:List Int) (a z:Int):Int:=domS K P z (K.length + 1) (rd P a)
section
variable {K P:List Int} (hO:Ok K P)
include hO
theorem domS_spec {z:Int} (z0:0 ≤ z) (z1:z < K.length):∀ (f:Nat) (x:Int),-1 ≤ x → x < K.length → x < f →
  -1 ≤ domS K P z f x ∧ domS K P z f x < K.length ∧ one K (domS K P z f x) = true ∧ Un P x (domS K P z f x) ∧ Un P z (domS K P z f x) ∧ z ≠ domS K P z f x:=by
 have hT:=hO.tree
 have hn:=hO.1
 have top:∀ x:Int,-1 ≤ x → x < K.length → Un P x (-1):=fun x a b=>Un.top hT (K.length) x b a (by omega)
 intro f
 induction f with
 | zero =>
  intro x x0 x1 x2
  rw [domS]
  exact ⟨by omega,by omega,rfl,top x x0 x1,top z (by omega) z1,by omega⟩
 | succ f ih =>
  intro x x0 x1 x2
  rw [domS]
  by_cases e:x = -1
  ·rw [if_pos e]
   exact ⟨by omega,by omega,rfl,top x x0 x1,top z (by omega) z1,by omega⟩
  ·rw [if_neg e]
   by_cases c:rd K x = 1 ∧ x ≠ z ∧ unB P z x = true
   ·rw [if_pos c]
    exact ⟨x0,x1,(one_of (by omega)).2 c.1,.refl _,(unB_iff hT (by omega) (by omega)).1 c.2.2,fun h=>c.2.1 h.symm⟩
   ·rw [if_neg c]
    have hp:=hT.rdP (a:=x) (by omega) (by omega)
    obtain ⟨a1,a2,a3,a4,a5,a6⟩:=ih (rd P x) (by omega) (by omega) (by omega)
    exact ⟨a1,a2,a3,.up (by omega) (by omega) a4,a5,a6⟩
theorem domL_spec {a z:Int} (a0:0 ≤ a) (a1:a < K.length) (z0:0 ≤ z) (z1:z < K.length) :
  -1 ≤ domL K P a z ∧ domL K P a z < a ∧ one K (domL K P a z) = true ∧ Un P a (domL K P a z) ∧ Un P z (domL K P a z) ∧ z ≠ domL K P a z:=by
 have hT:=hO.tree
 have hn:=hO.1
 have hp:=hT.rdP a0 (by omega)
 obtain ⟨b1,b2,b3,b4,b5,b6⟩:=domS_spec hO z0 z1 (K.length + 1) (rd P a) (by omega) (by omega) (by omega)
 have:=b4.le hT
 exact ⟨b1,by unfold domL;omega,b3,.up a0 (by omega) b4,b5,b6⟩
end
theorem BL.len {K P:List Int} {a:Int} {R:List Int} (h:BL K P a R):R.length ≤ K.length + 1:=pigeon h.nd (fun x hx=>by have:=h.el x hx;omega)
section
variable {K P:List Int} (hO:Ok K P)
include hO
theorem rDomain_l0 {z:Int} (z0:0 ≤ z) (z1:z < K.length):∀ (f:Nat) (x:Int),-1 ≤ x → x < K.length → x < f → Ev (fun k=>q2.l0 k z x K P) (domS K P z f x):=by
 have hT:=hO.tree
 have hn:=hO.1
 intro f
 induction f with
 | zero =>
  intro x x0 x1 x2
  refine Ev.step (fun k=>q2.l0.eq_2 ..) ?_
  rw [domS]
  exact Ev.neg (by omega) (Ev.now _)
 | succ f ih =>
  intro x x0 x1 x2
  refine Ev.step (fun k=>q2.l0.eq_2 ..) ?_
  rw [domS]
  by_cases e:x = -1
  ·rw [if_pos e]
   exact Ev.neg (by omega) (Ev.now _)
  ·rw [if_neg e]
   have hp:=hT.rdP (a:=x) (by omega) (by omega)
   have nxt:=ih (rd P x) (by omega) (by omega) (by omega)
   refine Ev.pos (by omega) (Ev.pos (by omega) (Ev.pos x1 ?_))
   by_cases c1:rd K x = 1
   ·refine Ev.pos c1 ?_
    by_cases c2:x = z
    ·rw [if_neg (fun h=>h.2.1 c2)]
     exact Ev.pos c2 (Ev.pos (by omega) nxt)
    ·refine Ev.neg c2 (Ev.bd (rUnder_f hn hT z0 z1 x0 x1) ?_)
     by_cases u:unB P z x = true
     ·rw [if_pos ⟨c1,c2,u⟩]
      exact Ev.pos u (Ev.now _)
     ·rw [if_neg (fun h=>u h.2.2)]
      exact Ev.neg u (Ev.pos (by omega) nxt)
   ·rw [if_neg (fun h=>c1 h.1)]
    exact Ev.neg c1 (Ev.pos (by omega) nxt)
theorem rDomain_f {a z:Int} (a0:0 ≤ a) (a1:a < K.length) (z0:0 ≤ z) (z1:z < K.length):Ev (fun k=>q2.f k K P a z) (domL K P a z):=by
 have hn:=hO.1
 have hp:=hO.tree.rdP a0 (by omega)
 have h:=rDomain_l0 hO z0 z1 (K.length + 1) (rd P a) (by omega) (by omega) (by omega)
 unfold q2.f q13.f
 refine Ev.cg (f:=fun k=>q2.j0 k a z false K P) ?_ (fun k=>?_)
 ·refine Ev.step (fun k=>q2.j0.eq_2 ..) ?_
  exact Ev.neg (by simp) (Ev.pos a0 (Ev.pos (by omega) h))
 ·rw [if_pos (by omega),if_pos (by omega),Option.bind_some,Option.bind_some,if_pos (by simpa using a1),decide_eq_true z1];rfl
omit hO in
theorem belowFrom_snoc (s a:Int) (i:Nat):belowFrom P s a 0 (i + 1) = belowFrom P s a 0 i ++ (if (i:Int) ≠ a ∧ inB s i = true ∧ unB P i a = true then [(i:Int)] else []):=by
 unfold belowFrom
 rw [List.range'_concat,List.filter_append,List.map_append]
 congr 1
 rw [Nat.zero_add,Nat.one_mul,List.filter_cons]
 by_cases h:(i:Int) ≠ a ∧ inB s i = true ∧ unB P i a = true
 ·rw [if_pos h,if_pos (by simp [h.1,h.2.1,h.2.2])];rfl
 ·rw [if_neg h,if_neg (by simpa using h)];rfl
theorem rLeave_l0 (c:Nat) (hc:c < 4294967296) (d:Int) (d0:-1 ≤ d) (d1:d < K.length):∀ (i:Nat) (acc:List Int),i ≤ K.length → acc.length + i ≤ 1000 →
  Ev (fun k=>q5.l0 k (c:Int) d acc ((i:Int) - 1) K P) (acc ++ (belowFrom P (c:Int) d 0 i).reverse):=by
 have hn:=hO.1
 have hT:=hO.tree
 have h24:=hO.2.2.2.2
 intro i
 induction i with
 | zero =>
  intro acc hi ha
  refine Ev.step (fun k=>q5.l0.eq_2 ..) ?_
  refine Ev.neg (by omega) (Ev.val (Ev.now _) (by simp [belowFrom]))
 | succ i ih =>
  intro acc hi ha
  refine Ev.step (fun k=>q5.l0.eq_2 ..) ?_
  rw [show ((i + 1:Nat):Int) - 1 = (i:Int) by omega,u64w i (by omega),w64 (x:=(i:Int) - 1) (by omega) (by omega),bit1 c i hc,belowFrom_snoc,inB_nat c i hc]
  refine Ev.pos (by omega) (Ev.pos (by omega) ?_)
  have no:¬ ((i:Int) ≠ d ∧ c.testBit i = true ∧ unB P i d = true) → Ev (fun k=>q5.l0 k (c:Int) d acc ((i:Int) - 1) K P) (acc ++ (belowFrom P (c:Int) d 0 i ++ (if (i:Int) ≠ d ∧ c.testBit i = true ∧ unB P i d = true then [(i:Int)] else [])).reverse):=fun h=>by
   rw [if_neg h,List.append_nil];exact ih acc (by omega) (by omega)
  by_cases hb:c.testBit i = true
  ·refine Ev.pos (by rw [if_pos hb]) ?_
   by_cases e:(i:Int) = d
   ·exact Ev.pos e (no (fun h=>h.1 e))
   ·refine Ev.neg e (Ev.bd (rUnder_f hn hT (by omega) (by omega) d0 d1) ?_)
    by_cases u:unB P (i:Int) d = true
    ·refine Ev.pos u (Ev.pos (by omega) ?_)
     rw [if_pos ⟨e,hb,u⟩]
     exact Ev.val (ih (acc ++ [(i:Int)]) (by omega) (by simp;omega)) (by simp)
    ·exact Ev.neg u (no (fun h=>u h.2.2))
  ·exact Ev.neg (by rw [if_neg hb];simp) (no (fun h=>hb h.2.1))
theorem rLeave_f (c:Nat) (hc:c < 4294967296) (d:Int) (d0:-1 ≤ d) (d1:d < K.length):Ev (fun k=>q5.f k K P (c:Int) d) (belowL K P (c:Int) d).reverse:=by
 have h24:=hO.2.2.2.2
 unfold q5.f
 have:=rLeave_l0 hO c hc d d0 d1 K.length [] (by omega) (by simp;omega)
 rw [w64 (x:=(K.length:Int) - 1) (by omega) (by omega)]
 simpa [belowL] using this
theorem kinds_pos:∀ j:Nat,j < K.length → 1 ≤ K.getD j 0:=fun j hj=>(okS_iff.1 (hO.2.2.1 j hj)).1
theorem inS_len {f:Nat} {a:Int} (h0:0 ≤ a) (h1:a < K.length) (h2:(K.length:Int) - a ≤ f) (hs:solidB (rd K a) = true):(inS K P f a).length ≤ K.length + 2:=by
 obtain ⟨R,e,b⟩:=inS_BL hO f a h0 h1 h2 hs
 have:=BL.len b
 rw [e,List.length_cons];omega
theorem inA_len {Q:List Int} (hQ:PastOk K P Q) {a:Int} (h0:0 ≤ a) (h1:a < K.length):(inA K P Q a).length ≤ K.length + 2:=by
 by_cases hs:solidB (rd K a) = true
 ·rw [inA_solid h0 h1 hs];exact inS_len hO h0 h1 (by omega) hs
 ·have:=BL.len (inA_hist hO hQ h0 h1 hs);omega
omit hO in
theorem pastOf_f (Q:List Int) {i:Int} (h0:0 ≤ i):q17.f Q i = some (wasS Q i):=by
 unfold q17.f wasS
 rw [if_pos (show i ≥ 0 from h0),if_neg (show ¬ i < 0 by omega)]
 by_cases h:i < (Q.length:Int)
 ·rw [if_pos h,if_pos h0,if_neg (by omega)]
 ·rw [if_neg h,if_pos (by omega)]
omit hO in
theorem into_l0 (Q:List Int) (F:Int → List Int) (L:List Int) (hl:L.length ≤ 24) (hF:∀ x ∈ L,(F x).length ≤ 26 ∧ Ev (fun k=>q9.f k K P x Q) (F x)):∀ (rest pre acc:List Int),L = pre ++ rest → acc.length ≤ 1 + 26 * pre.length →
  Ev (fun k=>q9.l0 k Q acc L (L.length:Int) (pre.length:Int) K P) (acc ++ rest.flatMap F):=by
 intro rest
 induction rest with
 | nil =>
  intro pre acc hp ha
  have:L.length = pre.length:=by rw [hp,List.append_nil]
  refine Ev.step (fun k=>q9.l0.eq_2 ..) ?_
  exact Ev.neg (by omega) (Ev.val (Ev.now _) (by simp))
 | cons x rest ih =>
  intro pre acc hp ha
  have hx:=hF x (by rw [hp];simp)
  have hlen:L.length = pre.length + (rest.length + 1):=by rw [hp];simp
  have hr:rd L (pre.length:Int) = x:=by
   rw [hp,rd_nat];simp [List.getD_eq_getElem?_getD]
  refine Ev.step (fun k=>q9.l0.eq_2 ..) ?_
  rw [hr,w1 _ (by omega)]
  refine Ev.pos (by omega) (Ev.pos (by omega) (Ev.pos (by omega) (Ev.bd hx.2 (Ev.pos (by omega) ?_))))
  have:=ih (pre ++ [x]) (acc ++ F x) (by rw [hp];simp) (by rw [List.length_append,List.length_append];simp;omega)
  rw [List.length_append] at this
  exact Ev.val this (by simp)
theorem into_solid (Q:List Int):∀ (f:Nat) (a:Int),0 ≤ a → a < K.length → (K.length:Int) - a ≤ f → solidB (rd K a) = true → Ev (fun k=>q9.f k K P a Q) (inS K P f a):=by
 have hn:=hO.1
 have h24:=hO.2.2.2.2
 intro f
 induction f with
 | zero=>intro a h0 h1 h2;omega
 | succ f ih =>
  intro a h0 h1 h2 hs
  refine Ev.step (fun k=>q9.f.eq_2 ..) ?_
  refine Ev.som (Ev.pos h0 (Ev.pos (by omega) (Ev.pos h1 ?_)))
  rw [inS]
  have hk:=solidB_iff.1 hs
  by_cases e1:rd K a = 1
  ·rw [if_neg (by omega)]
   refine Ev.pos e1 (Ev.bd (rInitial_f K P a hn (kinds_pos hO) (by omega)) ?_)
   rcases initial_cases K P a with e|⟨e,e'⟩
   ·rw [e,if_neg (by omega)]
    exact Ev.neg (by omega) (Ev.now _)
   ·obtain ⟨k0,k1,k2,_⟩:=hO.kid e
    have hl:=inS_len hO k0 k1 (f:=f) (by omega) e'
    rw [if_pos k0]
    refine Ev.pos k0 (Ev.bd (ih _ k0 k1 (by omega) e') (Ev.pos (by simp only [List.length_singleton];omega) ?_))
    exact Ev.val (Ev.now _) (by simp)
  ·have e2:rd K a = 2:=by omega
   rw [if_pos e2]
   refine Ev.neg e1 (Ev.pos e2 (Ev.bd (rKids_f K P a (by omega)) ?_))
   have hkl:=kids_len P a
   refine Ev.val (into_l0 Q (inS K P f) (kids P a) (by omega) (fun x hx=>?_) (kids P a) [] [a] rfl (by simp)) (by simp)
   obtain ⟨x0,x1,x2,_,_,x3⟩:=hO.kid hx
   have hsx:solidB (rd K x) = true:=(x3 (by omega)).2.resolve_right (by omega)
   have:=inS_len hO x0 x1 (f:=f) (by omega) hsx
   exact ⟨by omega,ih x x0 x1 (by omega) hsx⟩
theorem find_first {s up:Int} (h0:0 ≤ up) (h1:up < K.length) (hl:belowL K P s up = [] ∨ BL K P up (belowL K P s up)) :
  (belowL K P s up).find? (fun k=>decide (rd P k = up) && decide (rd K k ≤ 2)) = (kids P up).find? (fun k=>inB s k):=by
 have hn:=hO.1
 have hT:=hO.tree
 have key:(belowL K P s up).filter (fun k=>decide (rd P k = up) && decide (rd K k ≤ 2)) = (kids P up).filter (fun k=>inB s k):=by
  unfold belowL belowFrom kids kidsFrom
  rw [List.filter_map,List.filter_map,List.filter_filter,List.filter_filter,hn]
  congr 1
  refine List.filter_congr (fun j hj=>?_)
  have hj' : j < K.length:=by have:=List.mem_range'_1.1 hj;omega
  simp only [Function.comp]
  rw [rd_nat,rd_nat,Bool.eq_iff_iff]
  simp only [Bool.and_eq_true,decide_eq_true_eq]
  constructor
  ·rintro ⟨⟨a,b⟩,c,d,e⟩;exact ⟨d,a⟩
  ·rintro ⟨d,a⟩
   have ht:=hT j (by omega)
   have hne:¬ (j:Int) = up:=by omega
   have hu:unB P (j:Int) up = true:=(unB_iff hT (by omega) (by omega)).2 (.up (by omega) (by omega) (by rw [rd_nat,a];exact .refl _))
   refine ⟨⟨a,?_⟩,hne,d,hu⟩
   have hm:(j:Int) ∈ belowL K P s up:=mem_below.2 ⟨j,rfl,hj',hne,d,hu⟩
   rcases hl with e|b
   ·rw [e] at hm;cases hm
   ·have:=(b.el _ hm).2.2.1
    rw [rd_nat] at this
    have:=solidB_iff.1 this;omega
 rw [← List.head?_filter,← List.head?_filter,key]
theorem into_l1 (Q:List Int) {up:Int} (u0:0 ≤ up) (u1:up < K.length) {q:Nat} (hq:q < 4294967296) (hw:wasS Q up = (q:Int)) (F:Int → List Int) (hi:0 ≤ initial K P up)
  (L:List Int) (hl:L.length ≤ 24) (hL:∀ x ∈ L,0 ≤ x ∧ x < K.length) (hF:∀ x ∈ L,inB (q:Int) x = true → Ev (fun k=>q9.f k K P x Q) (F x)) (hFi:Ev (fun k=>q9.f k K P (initial K P up) Q) (F (initial K P up))) :
  ∀ (rest pre:List Int),L = pre ++ rest → Ev (fun k=>q9.l1 k Q up L (L.length:Int) (pre.length:Int) K P) (match rest.find? (fun k=>inB (q:Int) k) with|some k=>F k|none=>F (initial K P up)):=by
 have hn:=hO.1
 have h24:=hO.2.2.2.2
 intro rest
 induction rest with
 | nil =>
  intro pre hp
  have:L.length = pre.length:=by rw [hp,List.append_nil]
  refine Ev.step (fun k=>q9.l1.eq_2 ..) ?_
  exact Ev.neg (by omega) (Ev.bd (rInitial_f K P up hn (kinds_pos hO) (by omega)) (Ev.bd hFi (Ev.now _)))
 | cons x rest ih =>
  intro pre hp
  have hx:=hL x (by rw [hp];simp)
  have hFx:=hF x (by rw [hp];simp)
  have hlen:L.length = pre.length + (rest.length + 1):=by rw [hp];simp
  have hr:rd L (pre.length:Int) = x:=by
   rw [hp,rd_nat];simp [List.getD_eq_getElem?_getD]
  obtain ⟨j,rfl⟩:∃ j:Nat,x = (j:Int):=⟨x.toNat,by omega⟩
  refine Ev.step (fun k=>q9.l1.eq_2 ..) ?_
  rw [hr,w1 _ (by omega),pastOf_f Q u0,hw,u64w j (by omega),List.find?_cons]
  rw [inB_nat q j hq] at hFx ⊢
  refine Ev.pos (by omega) (Ev.pos (by omega) (Ev.pos (by omega) (Ev.som (Ev.pos (by omega) ?_))))
  rw [bit1 q j hq]
  by_cases hb:q.testBit j = true
  ·rw [hb]
   exact Ev.pos rfl (Ev.bd (hFx hb) (Ev.now _))
  ·rw [eq_false_of_ne_true hb]
   refine Ev.neg (by simp) ?_
   have:=ih (pre ++ [(j:Int)]) (by rw [hp];simp)
   rw [List.length_append] at this
   exact this
theorem into_l2 (Q:List Int) {up:Int} (u0:0 ≤ up) (u1:up < K.length) {q:Nat} (hq:q < 4294967296) (hw:wasS Q up = (q:Int)) (r:List Int) (hi:0 ≤ initial K P up) (hFi:Ev (fun k=>q9.f k K P (initial K P up) Q) r) :
  ∀ (d i:Nat) (acc:List Int),i + d = K.length → acc.length ≤ i → Ev (fun k=>q9.l2 k Q acc up (K.length:Int) (i:Int) K P) (if acc ++ belowFrom P (q:Int) up i d = [] then r else acc ++ belowFrom P (q:Int) up i d):=by
 have hn:=hO.1
 have hT:=hO.tree
 have h24:=hO.2.2.2.2
 intro d
 induction d with
 | zero =>
  intro i acc hd ha
  refine Ev.step (fun k=>q9.l2.eq_2 ..) ?_
  refine Ev.neg (by omega) ?_
  rw [show belowFrom P (q:Int) up i 0 = [] from rfl,List.append_nil]
  by_cases e:acc = []
  ·subst e
   exact Ev.pos (by simp) (Ev.bd (rInitial_f K P up hn (kinds_pos hO) (by omega)) (Ev.bd hFi (Ev.now _)))
  ·rw [if_neg e]
   exact Ev.neg (by have:=List.length_pos_iff.2 e;omega) (Ev.now _)
 | succ d ih =>
  intro i acc hd ha
  refine Ev.step (fun k=>q9.l2.eq_2 ..) ?_
  rw [w1 i (by omega),u64w i (by omega),pastOf_f Q u0,hw,belowFrom_succ,inB_nat q i hq]
  refine Ev.pos (by omega) ?_
  have no:¬ ((i:Int) ≠ up ∧ q.testBit i = true ∧ unB P i up = true) → Ev (fun k=>q9.l2 k Q acc up (K.length:Int) ((i + 1:Nat):Int) K P) (if acc ++ (if (i:Int) ≠ up ∧ q.testBit i = true ∧ unB P i up = true then (i:Int) :: belowFrom P (q:Int) up (i + 1) d else belowFrom P (q:Int) up (i + 1) d) = [] then r else acc ++ (if (i:Int) ≠ up ∧ q.testBit i = true ∧ unB P i up = true then (i:Int) :: belowFrom P (q:Int) up (i + 1) d else belowFrom P (q:Int) up (i + 1) d)):=fun h=>by
   rw [if_neg h];exact ih (i + 1) acc (by omega) (by omega)
  by_cases e:(i:Int) = up
  ·exact Ev.pos e (no (fun h=>h.1 e))
  ·refine Ev.neg e (Ev.bd (rUnder_f hn hT (by omega) (by omega) (by omega) u1) ?_)
   by_cases u:unB P (i:Int) up = true
   ·refine Ev.pos u (Ev.som (Ev.pos (by omega) ?_))
    rw [bit1 q i hq]
    by_cases hb:q.testBit i = true
    ·refine Ev.pos (by rw [if_pos hb]) (Ev.pos (by omega) ?_)
     rw [if_pos (⟨e,hb,u⟩:(i:Int) ≠ up ∧ q.testBit i = true ∧ unB P i up = true)]
     have:=ih (i + 1) (acc ++ [(i:Int)]) (by omega) (by simp;omega)
     rw [List.append_assoc,List.singleton_append] at this
     exact this
    ·exact Ev.neg (by rw [if_neg hb];simp) (no (fun h=>hb h.2.1))
   ·exact Ev.neg u (no (fun h=>u h.2.2))
omit hO in
theorem PQ.was {Q:List Int} (h:PQ K P Q) {i:Int} (h0:0 ≤ i):∃ q:Nat,wasS Q i = (q:Int) ∧ q < 4294967296:=by
 obtain ⟨i,rfl⟩:∃ j:Nat,i = (j:Int):=⟨i.toNat,by omega⟩
 rw [wasS_nat]
 by_cases hi:i < Q.length
 ·rw [if_pos hi]
  obtain ⟨q,e,hq⟩:=h.2 i hi
  exact ⟨q,e,hq.1⟩
 ·rw [if_neg hi];exact ⟨0,rfl,by decide⟩
theorem into_f {Q:List Int} (hPQ:PQ K P Q) {a:Int} (h0:0 ≤ a) (h1:a < K.length):Ev (fun k=>q9.f k K P a Q) (inA K P Q a):=by
 have hn:=hO.1
 have h24:=hO.2.2.2.2
 by_cases hs:solidB (rd K a) = true
 ·rw [inA_solid h0 h1 hs];exact into_solid hO Q K.length a h0 h1 (by omega) hs
 ·obtain ⟨p0,p1,p2,p3⟩:=hist_par hO h0 h1 hs
  have hr:=rd_range hO h0 h1
  have hs':=mt (solid_of hO h0 h1).2 hs
  obtain ⟨q,hw,hq⟩:=PQ.was hPQ p0
  have hi:=hO.2.2.2.1 _ p3
  have hini:∃ m,initial K P (rd P a) = m ∧ 0 ≤ m ∧ m < K.length ∧ solidB (rd K m) = true:=by
   rcases initial_cases K P (rd P a) with e|⟨e,e'⟩
   ·omega
   ·exact ⟨_,rfl,(hO.kid e).1,(hO.kid e).2.1,e'⟩
  obtain ⟨m,em,m0,m1,m2⟩:=hini
  have hFi:Ev (fun k=>q9.f k K P (initial K P (rd P a)) Q) (inS K P K.length (initial K P (rd P a))):=by
   rw [em];exact into_solid hO Q K.length m m0 m1 (by omega) m2
  have hok:=hPQ.ok hO _ p0 (by omega)
  rw [hw] at hok
  refine Ev.step (fun k=>q9.f.eq_2 ..) ?_
  refine Ev.som (Ev.pos h0 (Ev.pos (by omega) (Ev.pos h1 (Ev.neg (by omega) (Ev.neg (by omega) ?_)))))
  unfold inA
  rw [hw]
  by_cases c:rd K a = 3
  ·rw [if_pos c]
   refine Ev.pos c (Ev.bd (rKids_f K P _ (by omega)) ?_)
   have hkl:=kids_len P (rd P a)
   have hf:=find_first hO p0 (by omega) hok
   have:=into_l1 hO Q p0 (by omega) hq hw (inS K P K.length) hi (kids P (rd P a)) (by omega) (fun x hx=>by have:=hO.kid hx;omega) (fun x hx hb=>?_) hFi (kids P (rd P a)) [] rfl
   ·unfold backR
    rw [if_neg (by simp),hf,if_pos hi]
    exact this
   ·obtain ⟨x0,x1,x2,_⟩:=hO.kid hx
    refine into_solid hO Q K.length x x0 x1 (by omega) ?_
    obtain ⟨j,rfl⟩:∃ j:Nat,x = (j:Int):=⟨x.toNat,by omega⟩
    have hm:(j:Int) ∈ belowL K P (q:Int) (rd P a):=mem_below.2 ⟨j,rfl,by omega,by omega,hb,(unB_iff hO.tree (by omega) (by omega)).2 (Un.kid1 hx)⟩
    rcases hok with e|b
    ·rw [e] at hm;cases hm
    ·exact (b.el _ hm).2.2.1
  ·rw [if_neg c,if_pos (by omega)]
   refine Ev.neg c ?_
   have:=into_l2 hO Q p0 (by omega) hq hw (inS K P K.length (initial K P (rd P a))) hi hFi K.length 0 [] (by omega) (by simp)
   rw [List.nil_append] at this
   refine Ev.val this ?_
   unfold backR
   show (if belowL K P (q:Int) (rd P a) = [] then _ else belowL K P (q:Int) (rd P a)) = _
   by_cases e:belowL K P (q:Int) (rd P a) = []
   ·rw [if_pos e,if_neg (by simp [e]),e]
    show _ = (if 0 ≤ initial K P (rd P a) then _ else _)
    rw [if_pos hi]
   ·rw [if_neg e,if_pos ⟨rfl,e⟩]
theorem way_l0 {Q:List Int} {a z:Int} (a0:0 ≤ a) (a1:a < K.length) (z0:0 ≤ z) (z1:z < K.length) (F G:Int → List Int) (L:List Int) (hl:L.length ≤ 24) (hL:∀ x ∈ L,0 ≤ x ∧ x < K.length)
  (hF:∀ x ∈ L,unB P z x = true → (F x).length ≤ 26 ∧ Ev (fun k=>q12.f k K P x z Q) (F x)) (hG:∀ x ∈ L,(G x).length ≤ 26 ∧ Ev (fun k=>q9.f k K P x Q) (G x)) :
  ∀ (rest pre A B:List Int),L = pre ++ rest → A.length ≤ 1 + 26 * pre.length → B.length ≤ 26 * pre.length →
  Ev (fun k=>q12.l0 k a z Q A B L (L.length:Int) (pre.length:Int) K P) ((A ++ rest.flatMap (fun k=>if unB P z k = true then F k else [])) ++ (B ++ rest.flatMap (fun k=>if rd K a = 2 ∧ unB P z k = false then G k else []))):=by
 have hn:=hO.1
 have hT:=hO.tree
 intro rest
 induction rest with
 | nil =>
  intro pre A B hp ha hb
  have:L.length = pre.length:=by rw [hp,List.append_nil]
  refine Ev.step (fun k=>q12.l0.eq_2 ..) ?_
  exact Ev.neg (by omega) (Ev.pos (by omega) (Ev.val (Ev.now _) (by simp)))
 | cons x rest ih =>
  intro pre A B hp ha hb
  have hx:=hL x (by rw [hp];simp)
  have hlen:L.length = pre.length + (rest.length + 1):=by rw [hp];simp
  have hr:rd L (pre.length:Int) = x:=by
   rw [hp,rd_nat];simp [List.getD_eq_getElem?_getD]
  refine Ev.step (fun k=>q12.l0.eq_2 ..) ?_
  rw [hr,w1 _ (by omega)]
  refine Ev.pos (by omega) (Ev.pos (by omega) (Ev.pos (by omega) (Ev.bd (rUnder_f hn hT z0 z1 (by omega) hx.2) ?_)))
  have hsp:(pre ++ [x]).length = pre.length + 1:=by simp
  by_cases u:unB P z x = true
  ·obtain ⟨f1,f2⟩:=hF x (by rw [hp];simp) u
   refine Ev.pos u (Ev.bd f2 (Ev.pos (by omega) ?_))
   have:=ih (pre ++ [x]) (A ++ F x) B (by rw [hp];simp) (by rw [hsp,List.length_append];omega) (by rw [hsp];omega)
   rw [hsp] at this
   refine Ev.val this ?_
   rw [List.flatMap_cons,List.flatMap_cons,if_pos u,if_neg (by rw [u];simp)];simp
  ·have u':=eq_false_of_ne_true u
   refine Ev.neg u (Ev.pos a0 (Ev.pos a1 ?_))
   by_cases c:rd K a = 2
   ·obtain ⟨g1,g2⟩:=hG x (by rw [hp];simp)
    refine Ev.pos c (Ev.bd g2 (Ev.pos (by omega) ?_))
    have:=ih (pre ++ [x]) A (B ++ G x) (by rw [hp];simp) (by rw [hsp];omega) (by rw [hsp,List.length_append];omega)
    rw [hsp] at this
    refine Ev.val this ?_
    rw [List.flatMap_cons,List.flatMap_cons,if_neg u,if_pos ⟨c,u'⟩];simp
   ·refine Ev.neg c ?_
    have:=ih (pre ++ [x]) A B (by rw [hp];simp) (by rw [hsp];omega) (by rw [hsp];omega)
    rw [hsp] at this
    refine Ev.val this ?_
    rw [List.flatMap_cons,List.flatMap_cons,if_neg u,if_neg (fun h=>c h.1)];simp
theorem way_f {Q:List Int} (hPQ:PQ K P Q) {z:Int} (z0:0 ≤ z) (z1:z < K.length):∀ (f:Nat) (a:Int),0 ≤ a → a < K.length → (K.length:Int) - a ≤ f → Un P z a → Ev (fun k=>q12.f k K P a z Q) (pathR K P Q z f a):=by
 have hn:=hO.1
 have hT:=hO.tree
 have h24:=hO.2.2.2.2
 have hQ:=hPQ.ok hO
 intro f
 induction f with
 | zero=>intro a h0 h1 h2;omega
 | succ f ih =>
  intro a h0 h1 h2 hu
  refine Ev.step (fun k=>q12.f.eq_2 ..) ?_
  rw [pathR]
  by_cases e:a = z
  ·rw [if_pos e]
   exact Ev.pos e (Ev.bd (into_f hO hPQ z0 z1) (Ev.now _))
  ·rw [if_neg e]
   have hkl:=kids_len P a
   refine Ev.neg e (Ev.bd (rKids_f K P a (by omega)) ?_)
   have:=way_l0 hO (Q:=Q) h0 h1 z0 z1 (pathR K P Q z f) (inA K P Q) (kids P a) (by omega) (fun x hx=>by have:=hO.kid hx;omega) (fun x hx u=>?_) (fun x hx=>?_) (kids P a) [] [a] [] rfl (by simp) (by simp)
   ·exact Ev.val this (by simp)
   ·obtain ⟨x0,x1,x2,_⟩:=hO.kid hx
    have hux:=(unB_iff hT (by omega) (by omega)).1 u
    refine ⟨?_,ih x x0 x1 (by omega) hux⟩
    rcases (path_BL hO hQ z0 z1 f x x0 x1 (by omega) hux).2 with ⟨_,_,e2⟩|⟨_,R,e2,b⟩
    ·rw [e2];have:=inA_len hO hQ z0 z1;omega
    ·have:=BL.len b
     rw [e2,List.length_cons];omega
   ·obtain ⟨x0,x1,x2,_⟩:=hO.kid hx
    have:=inA_len hO hQ x0 x1
    exact ⟨by omega,into_f hO hPQ x0 x1⟩
theorem enter_l0 {Q:List Int} (hPQ:PQ K P Q) {d z k0:Int} (z0:0 ≤ z) (z1:z < K.length) (hk:k0 ∈ kids P d) (hzk:Un P z k0):∀ (n:Nat) (x:Int),x < n → Un P z x → Un P x d → x ≠ d → Ev (fun k=>q4.l0 k d z Q x K P) (pathR K P Q z K.length k0):=by
 have hn:=hO.1
 have hT:=hO.tree
 intro n
 induction n with
 | zero =>
  intro x hx hzx hxd hne
  have:=(hxd.cases' hne).1;omega
 | succ n ih =>
  intro x hx hzx hxd hne
  obtain ⟨x0,x1,hu⟩:=hxd.cases' hne
  have hp:=hT.rdP x0 x1
  refine Ev.step (fun k=>q4.l0.eq_2 ..) ?_
  refine Ev.pos x0 (Ev.pos x1 ?_)
  by_cases e:rd P x = d
  ·have hx' : x = k0:=sib_eq hO (kids_of_rd x0 x1 e) hk hzx hzk
   subst hx'
   exact Ev.pos e (Ev.bd (way_f hO hPQ z0 z1 K.length x x0 (by omega) (by omega) hzx) (Ev.now _))
  ·exact Ev.neg e (ih (rd P x) (by omega) (hzx.trans (.up x0 x1 (.refl _))) hu e)
theorem rEnter_f {Q:List Int} (hPQ:PQ K P Q) {d z:Int} (z0:0 ≤ z) (z1:z < K.length) (hu:Un P z d) (hne:z ≠ d):Ev (fun k=>q4.f k K P d z Q) (enterL K P Q d z):=by
 obtain ⟨k,hf,hk,hzk⟩:=way_kid hO z0 z1 hu hne
 unfold q4.f enterL
 rw [flatMap_if (p:=fun k=>unB P z k),hf,List.flatMap_cons,List.flatMap_nil,List.append_nil]
 exact enter_l0 hO hPQ z0 z1 hk hzk (z.toNat + 1) z (by omega) (.refl _) hu hne
theorem rStart_f:Ev (fun k=>q6.f k K P) (startL K P):=by
 have hn:=hO.1
 have h24:=hO.2.2.2.2
 obtain ⟨_,R,hR⟩:=start_BL hO
 have hi:0 ≤ initial K P (-1):=Classical.byContradiction fun h=>by
  unfold startL at hR;rw [if_neg h] at hR;cases hR
 unfold q6.f startL
 rw [if_pos hi]
 refine Ev.bd (rInitial_f K P (-1) hn (kinds_pos hO) (by omega)) ?_
 rcases initial_cases K P (-1) with e|⟨e,e'⟩
 ·omega
 ·obtain ⟨k0,k1,_⟩:=hO.kid e
  exact Ev.bd (into_solid hO [] K.length _ k0 k1 (by omega) e') (Ev.now _)
end
theorem same32_l0 (L:List Int) (hl:L.length < 4611686018427387904):∀ (d i:Nat),i + d = L.length → Ev (fun k=>q11.l0 k L L (i:Int)) true:=by
 intro d
 induction d with
 | zero =>
  intro i hi
  refine Ev.step (fun k=>q11.l0.eq_2 ..) ?_
  exact Ev.neg (by omega) (Ev.now _)
 | succ d ih =>
  intro i hi
  refine Ev.step (fun k=>q11.l0.eq_2 ..) ?_
  rw [w1 i (by omega)]
  exact Ev.pos (by omega) (Ev.pos (by omega) (Ev.pos (by omega) (Ev.pos rfl (ih (i + 1) (by omega)))))
theorem same32_f (L:List Int) (hl:L.length < 4611686018427387904):Ev (fun k=>q11.f k L L) true:=by
 unfold q11.f
 exact Ev.pos rfl (same32_l0 L hl L.length 0 (by omega))
theorem copy32_f (l:List Int) (h:l.length < 35184372088832):q8.f l = some l:=by
 unfold q8.f
 rw [if_pos (by simpa using h)];simp
section
variable {K P:List Int} (hO:Ok K P) (c:Nat) (hc:c < 4294967296) (left Q:List Int)
include hO hc
theorem rrem_l3 (j a:Nat) (B:List Int) (hB:B.length = K.length) (ha:a < K.length) (hj:j < 100000) {Post:List Int → Prop}
  (next:Ex (fun k=>q0.l1 k (c:Int) (B.set a ((bs (belowL K P (c:Int) (a:Int)) 0:Nat):Int)) left (left.length:Int) ((j + 1:Nat):Int) K P) Post) :
  ∀ (d x q:Nat),x + d = K.length → q < 4294967296 → (∀ i:Nat,q.testBit i = true ↔ i < x ∧ (i:Int) ≠ a ∧ Un P (i:Int) a ∧ c.testBit i = true) →
  Ex (fun k=>q0.l3 k (c:Int) (B.set a (q:Int)) (a:Int) left (left.length:Int) (j:Int) (K.length:Int) (x:Int) K P) Post:=by
 have hn:=hO.1
 have hT:=hO.tree
 have h24:=hO.2.2.2.2
 intro d
 induction d with
 | zero =>
  intro x q hx hq hb
  refine Ex.step (fun k=>q0.l3.eq_2 ..) ?_
  refine Ex.neg (by omega) ?_
  rw [w1 j (by omega)]
  have e:q = bs (belowL K P (c:Int) (a:Int)) 0:=by
   refine Nat.eq_of_testBit_eq (fun i=>?_)
   rw [Bool.eq_iff_iff,tb_bs (fun y hy=>by obtain ⟨j,rfl,_⟩:=mem_below.1 hy;omega),hb,Nat.zero_testBit]
   simp only [Bool.false_eq_true,false_or]
   rw [mem_belowN hO hc]
   constructor
   ·rintro ⟨a',b,c',d'⟩
    exact ⟨i,rfl,by omega,b,d',c'⟩
   ·rintro ⟨j',e,a',b,c',d'⟩
    obtain rfl:i = j':=by omega
    exact ⟨by omega,b,d',c'⟩
  rw [e];exact next
 | succ d ih =>
  intro x q hx hq hb
  have keep:¬ ((x:Int) ≠ a ∧ Un P (x:Int) a ∧ c.testBit x = true) → Ex (fun k=>q0.l3 k (c:Int) (B.set a (q:Int)) (a:Int) left (left.length:Int) (j:Int) (K.length:Int) ((x + 1:Nat):Int) K P) Post:=fun h=>by
   refine ih (x + 1) q (by omega) hq (fun j=>?_)
   rw [hb]
   constructor
   ·rintro ⟨a,b⟩;exact ⟨by omega,b⟩
   ·rintro ⟨a,b⟩
    refine ⟨?_,b⟩
    by_cases e:j = x
    ·subst e;exact absurd b h
    ·omega
  have hrd:rd (B.set a (q:Int)) (a:Int) = (q:Int):=by
   rw [rd_nat,getD_set (by omega),if_pos rfl]
  refine Ex.step (fun k=>q0.l3.eq_2 ..) ?_
  refine Ex.pos (by omega) ?_
  rw [w1 x (by omega),u64w x (by omega),hrd,Int.toNat_natCast,List.set_set]
  by_cases e:(x:Int) = a
  ·exact Ex.pos e (keep (fun h=>h.1 e))
  ·refine Ex.neg e (Ex.bd (rUnder_f hn hT (by omega) (by omega) (by omega) (by omega)) ?_)
   by_cases u:unB P (x:Int) a = true
   ·refine Ex.pos u (Ex.pos (by omega) (Ex.pos (by rw [List.length_set];omega) (Ex.pos (by omega) ?_)))
    rw [shl_one x (by omega),u32_and c _ hc (pow_lt32 (by omega)),u32_or q _ hq (and1_lt' hc)]
    refine ih (x + 1) _ (by omega) (and1_lt hq hc) (fun i=>?_)
    rw [tb_and1,hb]
    have u':=(unB_iff hT (by omega) (by omega)).1 u
    constructor
    ·rintro (⟨a,b⟩|⟨rfl,b⟩)
     ·exact ⟨by omega,b⟩
     ·exact ⟨by omega,e,u',b⟩
    ·rintro ⟨a,b,c',e'⟩
     by_cases g:i = x
     ·exact .inr ⟨g,e'⟩
     ·exact .inl ⟨by omega,b,c',e'⟩
   ·exact Ex.neg u (keep (fun h=>u ((unB_iff hT (by omega) (by omega)).2 h.2.1)))
omit hO hc in
theorem rrem_l2 (j a:Nat) (B:List Int) (hB:B.length = K.length) (ha:a < K.length) {Post:List Int → Prop}
  (next1:remB K P (a:Int) = true → Ex (fun k=>q0.l3 k (c:Int) (B.set a 0) (a:Int) left (left.length:Int) (j:Int) (K.length:Int) 0 K P) Post)
  (next0:remB K P (a:Int) = false → Ex (fun k=>q0.l1 k (c:Int) B left (left.length:Int) (wrap64 ((j:Int) + 1)) K P) Post) (L:List Int) (hl:L.length < 1000) (hL:∀ x ∈ L,0 ≤ x ∧ x < K.length) :
  ∀ (rest pre:List Int) (b:Bool),L = pre ++ rest → (b || rest.any (fun k=>decide (3 ≤ rd K k))) = remB K P (a:Int) →
  Ex (fun k=>q0.l2 k (c:Int) B (a:Int) b left (left.length:Int) (j:Int) L (L.length:Int) (pre.length:Int) K P) Post:=by
 intro rest
 induction rest with
 | nil =>
  intro pre b hp hb
  have:L.length = pre.length:=by rw [hp,List.append_nil]
  rw [List.any_nil,Bool.or_false] at hb
  refine Ex.step (fun k=>q0.l2.eq_2 ..) ?_
  refine Ex.neg (by omega) ?_
  rw [Int.toNat_natCast]
  cases b with
  | true=>exact Ex.pos rfl (Ex.pos (by omega) (Ex.pos (by omega) (next1 hb.symm)))
  | false=>exact Ex.neg (by simp) (next0 hb.symm)
 | cons x rest ih =>
  intro pre b hp hb
  have hx:=hL x (by rw [hp];simp)
  have hlen:L.length = pre.length + (rest.length + 1):=by rw [hp];simp
  have hr:rd L (pre.length:Int) = x:=by
   rw [hp,rd_nat];simp [List.getD_eq_getElem?_getD]
  have hsp:(pre ++ [x]).length = pre.length + 1:=by simp
  refine Ex.step (fun k=>q0.l2.eq_2 ..) ?_
  rw [hr,w1 (pre.length) (by omega)]
  refine Ex.pos (by omega) (Ex.pos (by omega) (Ex.pos (by omega) ?_))
  rw [List.any_cons] at hb
  cases b with
  | true =>
   refine Ex.pos rfl ?_
   have:=ih (pre ++ [x]) true (by rw [hp];simp) (by rw [Bool.true_or] at hb ⊢;exact hb)
   rw [hsp] at this
   exact this
  | false =>
   refine Ex.neg (by simp) (Ex.pos hx.1 (Ex.pos hx.2 ?_))
   have:=ih (pre ++ [x]) (decide (rd K x ≥ 3)) (by rw [hp];simp) (by rw [Bool.false_or] at hb;exact hb)
   rw [hsp] at this
   exact this
theorem rrem_l1 (hl:left.length < 1000) (hL:∀ x ∈ left,0 ≤ x ∧ x < K.length):∀ (rest pre:List Int) (B:List Int),left = pre ++ rest → B.length = K.length → (∀ i:Nat,i < K.length → B.getD i 0 = remS K P (c:Int) pre Q i) →
  Ex (fun k=>q0.l1 k (c:Int) B left (left.length:Int) (pre.length:Int) K P) (fun out=>out.length = K.length ∧ ∀ i:Nat,i < K.length → out.getD i 0 = remS K P (c:Int) left Q i):=by
 have hn:=hO.1
 have h24:=hO.2.2.2.2
 intro rest
 induction rest with
 | nil =>
  intro pre B hp hB hb
  have:left.length = pre.length:=by rw [hp,List.append_nil]
  refine Ex.step (fun k=>q0.l1.eq_2 ..) ?_
  refine Ex.neg (by omega) (Ex.now ⟨hB,fun i hi=>?_⟩)
  rw [hb i hi,hp,List.append_nil]
 | cons x rest ih =>
  intro pre B hp hB hb
  have hx:=hL x (by rw [hp];simp)
  have hlen:left.length = pre.length + (rest.length + 1):=by rw [hp];simp
  have hr:rd left (pre.length:Int) = x:=by
   rw [hp,rd_nat];simp [List.getD_eq_getElem?_getD]
  obtain ⟨a,rfl⟩:∃ i:Nat,x = (i:Int):=⟨x.toNat,by omega⟩
  have hsp:(pre ++ [(a:Int)]).length = pre.length + 1:=by simp
  have hkl:=kids_len P (a:Int)
  refine Ex.step (fun k=>q0.l1.eq_2 ..) ?_
  rw [hr]
  refine Ex.pos (by omega) (Ex.pos (by omega) (Ex.pos (by omega) (Ex.bd (rKids_f K P _ (by omega)) ?_)))
  refine rrem_l2 c left pre.length a B hB (by omega) (fun hm=>?_) (fun hm=>?_) (kids P (a:Int)) (by omega) (fun x hx=>by have:=hO.kid hx;omega) (kids P (a:Int)) [] false rfl (by rw [Bool.false_or];rfl)
  ·refine rrem_l3 hO c hc left pre.length a B hB (by omega) (by omega) ?_ K.length 0 0 (by omega) (by decide) (fun j=>by simp)
   have:=ih (pre ++ [(a:Int)]) (B.set a ((bs (belowL K P (c:Int) (a:Int)) 0:Nat):Int)) (by rw [hp];simp) (by rw [List.length_set];exact hB) (fun i hi=>?_)
   ·rw [hsp] at this;exact this
   ·rw [getD_set (by omega)]
    unfold remS
    by_cases e:a = i
    ·subst e
     rw [if_pos rfl,if_pos ⟨by simp,hm⟩]
    ·rw [if_neg e,hb i hi]
     unfold remS
     by_cases g:(i:Int) ∈ pre ∧ remB K P (i:Int) = true
     ·rw [if_pos g,if_pos ⟨List.mem_append_left _ g.1,g.2⟩]
     ·rw [if_neg g,if_neg (fun h=>g ⟨?_,h.2⟩)]
      rcases List.mem_append.1 h.1 with h'|h'
      ·exact h'
      ·have:=List.mem_singleton.1 h';omega
  ·rw [w1 _ (by omega)]
   have:=ih (pre ++ [(a:Int)]) B (by rw [hp];simp) hB (fun i hi=>?_)
   ·rw [hsp] at this;exact this
   ·rw [hb i hi]
    unfold remS
    by_cases g:(i:Int) ∈ pre ∧ remB K P (i:Int) = true
    ·rw [if_pos g,if_pos ⟨List.mem_append_left _ g.1,g.2⟩]
    ·rw [if_neg g,if_neg (fun h=>g ⟨?_,h.2⟩)]
     rcases List.mem_append.1 h.1 with h'|h'
     ·exact h'
     ·have:=List.mem_singleton.1 h'
      have h2:=h.2
      rw [this,hm] at h2;cases h2
omit hc in
theorem rrem_l0 {Post:List Int → Prop} (next:∀ B:List Int,B.length = K.length → (∀ i:Nat,i < K.length → B.getD i 0 = wasS Q (i:Int)) → Ex (fun k=>q0.l1 k (c:Int) B left (left.length:Int) 0 K P) Post) :
  ∀ (d i:Nat) (B:List Int),i + d = K.length → B.length = K.length → (∀ j:Nat,j < i → B.getD j 0 = wasS Q (j:Int)) → Ex (fun k=>q0.l0 k (c:Int) left Q B (K.length:Int) (i:Int) K P) Post:=by
 have h24:=hO.2.2.2.2
 intro d
 induction d with
 | zero =>
  intro i B hi hB hb
  refine Ex.step (fun k=>q0.l0.eq_2 ..) ?_
  exact Ex.neg (by omega) (next B hB (fun j hj=>hb j (by omega)))
 | succ d ih =>
  intro i B hi hB hb
  refine Ex.step (fun k=>q0.l0.eq_2 ..) ?_
  rw [pastOf_f Q (by omega),w1 i (by omega),Int.toNat_natCast]
  refine Ex.pos (by omega) (Ex.som (Ex.pos (by omega) (Ex.pos (by omega) ?_)))
  refine ih (i + 1) (B.set i (wasS Q (i:Int))) (by omega) (by rw [List.length_set];exact hB) (fun j hj=>?_)
  rw [getD_set (by omega)]
  by_cases e:i = j
  ·subst e;rw [if_pos rfl]
  ·rw [if_neg e];exact hb j (by omega)
theorem rRemember_f (hl:left.length < 1000) (hL:∀ x ∈ left,0 ≤ x ∧ x < K.length) :
  Ex (fun k=>q0.f k K P (c:Int) left Q) (fun out=>out.length = K.length ∧ ∀ i:Nat,i < K.length → out.getD i 0 = remS K P (c:Int) left Q i):=by
 have h24:=hO.2.2.2.2
 unfold q0.f
 refine Ex.pos (by omega) (Ex.pos (by omega) (Ex.som ?_))
 rw [List.length_replicate,Int.toNat_natCast]
 refine rrem_l0 hO c left Q (fun B hB hb=>rrem_l1 hO c hc left Q hl hL left [] B rfl hB (fun i hi=>?_)) K.length 0 _ (by omega) (by simp) (fun j hj=>by omega)
 rw [hb i hi]
 unfold remS
 rw [if_neg (by simp)]
end
end Go.Proofs.Ytnomeokicfpidaa.M
