-- merged and slimmed by slim.py (a program of this repo)
import Derived.Test.YtnomeokicfpidaaKEnterProper6
namespace Go.Proofs.Ytnomeokicfpidaa.Q
open Go.RowKit Go.Proofs.YtnomeokicfpidaaW.PrintWords Go.Proofs.YtnomeokicfpidaaW.PrintLast Go.Proofs.YtnomeokicfpidaaW.PrintMore
attribute [local go_sem] max2_int min2_int max_two min_two max_three min_three max_four min_four
set_option linter.unusedVariables false
set_option linter.unusedSimpArgs false
def q8.f (k:Nat)  : Option (Bool):=(q20.f k (([1]:List Int)) (([(-1)]:List Int)) 1).bind fun t107=>(some t107)
end Go.Proofs.Ytnomeokicfpidaa.Q
namespace Go.Proofs.Ytnomeokicfpidaa.M
open Go.RowKit Go.Proofs.YtnomeokicfpidaaW.PrintWords Go.Proofs.YtnomeokicfpidaaW.PrintLast Go.Proofs.YtnomeokicfpidaaW.PrintMore Go.Proofs.Ytnomeokicfpidaa.Q
set_option linter.unusedVariables false
theorem within_f (a b:Int) (hb:1 ≤ b) (hb' : b ≤ 4611686018427387904):q11.f a b = some (a % b):=by
 unfold q11.f
 have h0:=Int.emod_nonneg a (show b ≠ 0 by omega)
 have h1:=Int.emod_lt_of_pos a (show 0 < b by omega)
 rw [if_neg (by omega),if_neg (by omega),Int.tmod_eq_emod]
 by_cases h:0 ≤ a ∨ b ∣ a
 ·rw [if_pos h,if_neg (by omega)];simp
 ·rw [if_neg h]
  have:a % b ≠ 0:=fun e=>h (.inr (Int.dvd_of_emod_eq_zero e))
  rw [if_pos (by omega),w64 (by omega) (by omega)]
  congr 1;omega
theorem copy_f (l:List Int) (h:l.length < 17592186044416):q6.f l = some l:=by
 unfold q6.f
 rw [if_pos (by simpa using h)];simp
def Ex {α:Type} (g:Nat → Option α) (Q:α → Prop):Prop:=∃ r,Ev g r ∧ Q r
theorem Ex.st {α:Type} {g f:Nat → Option α} {Q:α → Prop} (h:Ex f Q) (e:∀ k,g (k + 1) = f k):Ex g Q:=by
 obtain ⟨r,a,b⟩:=h
 exact ⟨r,Ev.st a e,b⟩
theorem Ex.iff {α:Type} {c:Prop} [Decidable c] {f g:Nat → Option α} {Q:α → Prop} (k:c → Ex f Q) (l:¬ c → Ex g Q):Ex (fun n=>if c then f n else g n) Q:=by
 by_cases h:c
 ·simpa [h] using k h
 ·simpa [h] using l h
theorem Ex.bd {α β:Type} {g:Nat → Option α} {f:Nat → α → Option β} {a:α} {Q:β → Prop} (h:Ev g a) (k:Ex (fun n=>f n a) Q):Ex (fun n=>(g n).bind (fun x=>f n x)) Q:=by
 obtain ⟨r,x,y⟩:=k
 exact ⟨r,Ev.bd h x,y⟩
def Inv (K P:List Int):Prop:=P.length = K.length ∧ 1 ≤ K.length ∧ (∀ i,i < K.length → okS K P i = true) ∧
 (∀ i,i < K.length → 3 ≤ K.getD i 0 → ∃ m,m < i ∧ P.getD m 0 = P.getD i 0 ∧ solidB (K.getD m 0) = true) ∧ P.getD 0 0 = -1 ∧ solidB (K.getD 0 0) = true
theorem getD_app_l {l m:List Int} {i:Nat} (h:i < l.length):(l ++ m).getD i 0 = l.getD i 0:=by
 rw [List.getD_eq_getElem?_getD,List.getElem?_append_left h,← List.getD_eq_getElem?_getD]
theorem getD_app_r {l:List Int} {x:Int} {i:Nat} (h:i = l.length):(l ++ [x]).getD i 0 = x:=by
 subst h;rw [List.getD_eq_getElem?_getD,List.getElem?_append_right (Nat.le_refl _)];simp
theorem rd_app_l {l m:List Int} {p:Int} (h0:0 ≤ p) (h:p < l.length):rd (l ++ m) p = rd l p:=by
 unfold rd;exact getD_app_l (by omega)
theorem okS_app {K P:List Int} {k p:Int} (hn:P.length = K.length) {i:Nat} (hi:i < K.length) (h:okS K P i = true):okS (K ++ [k]) (P ++ [p]) i = true:=by
 obtain ⟨h1,h2,h3,h4,h5⟩:=okS_iff.1 h
 have eK:(K ++ [k]).getD i 0 = K.getD i 0:=getD_app_l hi
 have eP:(P ++ [p]).getD i 0 = P.getD i 0:=getD_app_l (by omega)
 refine okS_iff.2 ⟨by rw [eK];exact h1,by rw [eK];exact h2,by rw [eP];exact h3,by rw [eP];exact h4,?_⟩
 rw [eP,eK]
 by_cases hp:P.getD i 0 = -1
 ·rw [if_pos hp] at h5 ⊢;exact h5
 ·rw [if_neg hp] at h5 ⊢
  rw [rd_app_l (by omega) (by omega)];exact h5
theorem Inv.app {K P:List Int} {k p:Int} (h:Inv K P) (hk1:1 ≤ k) (hk4:k ≤ 4) (hp0:-1 ≤ p) (hp1:p < K.length)
  (hp:p = -1 ∨ solidB (rd K p) = true) (hh:3 ≤ k → p ≠ -1 ∧ rd K p = 1 ∧ ∃ m,m < K.length ∧ P.getD m 0 = p ∧ solidB (K.getD m 0) = true):Inv (K ++ [k]) (P ++ [p]):=by
 obtain ⟨hn,h1,hok,hb,h0,hs⟩:=h
 refine ⟨by simp [hn],by simp,?_,?_,by rw [getD_app_l (by omega)];exact h0,by rw [getD_app_l (by omega)];exact hs⟩
 ·intro i hi
  rw [List.length_append,List.length_singleton] at hi
  by_cases hl:i < K.length
  ·exact okS_app hn hl (hok i hl)
  ·obtain rfl:i = K.length:=by omega
   have eK:(K ++ [k]).getD K.length 0 = k:=getD_app_r rfl
   have eP:(P ++ [p]).getD K.length 0 = p:=getD_app_r hn.symm
   refine okS_iff.2 ⟨by rw [eK];exact hk1,by rw [eK];exact hk4,by rw [eP];exact hp0,by rw [eP];exact hp1,?_⟩
   rw [eK,eP]
   by_cases hq:p = -1
   ·rw [if_pos hq]
    exact solidB_iff.2 (by
     by_cases h3:3 ≤ k
     ·exact absurd hq (hh h3).1
     ·omega)
   ·rw [if_neg hq,rd_app_l (by omega) hp1]
    rcases hp with hp|hp
    ·exact absurd hp hq
    ·rw [hp,Bool.true_and]
     by_cases h3:3 ≤ k
     ·rw [(hh h3).2.1];simp
     ·rw [solidB_iff.2 (by omega)];rfl
 ·intro i hi h3
  rw [List.length_append,List.length_singleton] at hi
  by_cases hl:i < K.length
  ·rw [getD_app_l hl] at h3
   obtain ⟨m,a,b,c⟩:=hb i hl h3
   exact ⟨m,a,by rw [getD_app_l (by omega),getD_app_l (by omega)];exact b,by rw [getD_app_l (by omega)];exact c⟩
  ·obtain rfl:i = K.length:=by omega
   rw [getD_app_r rfl] at h3
   obtain ⟨_,_,m,a,b,c⟩:=hh h3
   exact ⟨m,a,by rw [getD_app_l (by omega),getD_app_r hn.symm];exact b,by rw [getD_app_l a];exact c⟩
theorem firstSolid_pos {K L:List Int} (hL:∀ x ∈ L,0 ≤ x) {x:Int} (hx:x ∈ L) (hs:solidB (rd K x) = true):0 ≤ firstSolid K L:=by
 induction L with
 | nil=>cases hx
 | cons y L ih =>
  rw [firstSolid]
  by_cases hy:solidB (rd K y) = true
  ·rw [if_pos hy];exact hL y (List.mem_cons_self ..)
  ·rw [if_neg hy]
   rcases List.mem_cons.1 hx with rfl|hx
   ·exact absurd hs hy
   ·exact ih (fun z hz=>hL z (List.mem_cons_of_mem _ hz)) hx
theorem Inv.initial {K P:List Int} (h:Inv K P) {a:Int} {i:Nat} (hi:i < K.length) (ha:P.getD i 0 = a):0 ≤ initial K P a:=by
 obtain ⟨hn,h1,hok,hb,h0,hs⟩:=h
 have:∃ m:Nat,m < K.length ∧ P.getD m 0 = a ∧ solidB (K.getD m 0) = true:=by
  obtain ⟨a1,a2,_⟩:=okS_iff.1 (hok i hi)
  by_cases h3:3 ≤ K.getD i 0
  ·obtain ⟨m,b,c,d⟩:=hb i hi h3
   exact ⟨m,by omega,by rw [c,ha],d⟩
  ·exact ⟨i,hi,ha,solidB_iff.2 (by omega)⟩
 obtain ⟨m,b,c,d⟩:=this
 exact firstSolid_pos (fun x hx=>(kids_in hn a x hx).1) (mem_kids.2 ⟨m,rfl,by omega,c⟩) (by rw [rd_nat];exact d)
theorem Inv.valid {K P:List Int} (h:Inv K P) (h24:K.length ≤ 24):validB K P = true:=by
 have hI:=h
 obtain ⟨hn,h1,hok,hb,h0,hs⟩:=h
 unfold validB compsB
 rw [decide_eq_true ⟨h1,h24,hn⟩,Bool.true_and,Bool.and_eq_true,Bool.and_eq_true,List.all_eq_true,List.all_eq_true]
 refine ⟨fun i hi=>hok i (by rw [List.mem_range'_1] at hi;omega),?_,fun i hi=>?_⟩
 ·unfold compB;rw [decide_eq_true (hI.initial (i:=0) (by omega) h0)];simp
 ·unfold compB
  by_cases hk:(kids P (i:Int)).isEmpty
  ·rw [hk,show ((i:Int) != -1) = true from bne_iff_ne.mpr (by omega)];rfl
  ·have:∃ x,x ∈ kids P (i:Int):=by
    cases hl:kids P (i:Int) with
    | nil=>rw [hl] at hk;exact absurd rfl hk
    | cons x _=>exact ⟨x,List.mem_cons_self ..⟩
   obtain ⟨x,hx⟩:=this
   obtain ⟨j,rfl,b,c⟩:=mem_kids.1 hx
   rw [decide_eq_true (hI.initial (by omega) c)];simp
def OfPost (l:List Int) (r:List Int × List Int × List Int × List Int):Prop :=
 Inv r.1 r.2.1 ∧ r.2.2.1 = r.1 ∧ r.2.2.2 = r.2.1 ∧ r.1.length = max 1 (min l.length 12)
theorem copy2 (K P:List Int) (hK:K.length < 17592186044416) (hP:P.length < 17592186044416):((q6.f K).bind fun t1=>((q6.f P).bind fun t2=>(some (K,P,t1,t2)))) = some (K,P,K,P):=by
 rw [copy_f K hK,Option.bind_some,copy_f P hP,Option.bind_some]
theorem getD_set {l:List Int} {i j:Nat} {x:Int} (h:i < l.length):(l.set i x).getD j 0 = if i = j then x else l.getD j 0:=by
 rw [List.getD_eq_getElem?_getD,List.getElem?_set,List.getD_eq_getElem?_getD]
 by_cases e:i = j
 ·rw [if_pos e,if_pos e,if_pos h];rfl
 ·rw [if_neg e,if_neg e]
def Inv2 (K P:List Int) (i:Nat):Prop:=P.length = K.length ∧ 1 ≤ K.length ∧ P.getD 0 0 = -1 ∧ K.getD 0 0 = 2 ∧
 (∀ j,j < K.length → 1 ≤ K.getD j 0 ∧ K.getD j 0 ≤ 4 ∧ -1 ≤ P.getD j 0 ∧ P.getD j 0 < j ∧ (P.getD j 0 = -1 → solidB (K.getD j 0) = true) ∧ (P.getD j 0 ≠ -1 → solidB (rd K (P.getD j 0)) = true)
  ∧ (P.getD j 0 ≠ -1 → solidB (K.getD j 0) = true ∨ rd K (P.getD j 0) = 1 ∨ (P.getD j 0 = 0 ∧ i ≤ j))) ∧
 (∀ j,j < K.length → 3 ≤ K.getD j 0 → ∃ m,m < j ∧ P.getD m 0 = P.getD j 0 ∧ solidB (K.getD m 0) = true)
theorem Inv2.done {K P:List Int} {i:Nat} (h:Inv2 K P i) (hi:K.length ≤ i):Inv K P:=by
 obtain ⟨hn,h1,h0,h2,hok,hb⟩:=h
 refine ⟨hn,h1,fun j hj=>?_,hb,h0,by rw [h2];rfl⟩
 obtain ⟨a1,a2,a3,a4,a5,a6,a7⟩:=hok j hj
 refine okS_iff.2 ⟨a1,a2,a3,a4,?_⟩
 by_cases hp:P.getD j 0 = -1
 ·rw [if_pos hp];exact a5 hp
 ·rw [if_neg hp,a6 hp,Bool.true_and]
  rcases a7 hp with h|h|h
  ·rw [h];rfl
  ·rw [h];simp
  ·omega
theorem Inv2.start {K P:List Int} (h:Inv K P):Inv2 (K.set 0 2) P 0:=by
 obtain ⟨hn,h1,hok,hb,h0,hs⟩:=h
 have g:∀ j,(K.set 0 2).getD j 0 = if 0 = j then 2 else K.getD j 0:=fun j=>getD_set (by omega)
 have gs:∀ j,solidB (K.getD j 0) = true → solidB ((K.set 0 2).getD j 0) = true:=fun j hj=>by
  rw [g]
  by_cases e:0 = j
  ·rw [if_pos e];rfl
  ·rw [if_neg e];exact hj
 refine ⟨by rw [List.length_set];exact hn,by rw [List.length_set];exact h1,h0,by rw [g];rfl,fun j hj=>?_,fun j hj h3=>?_⟩
 ·rw [List.length_set] at hj
  obtain ⟨a1,a2,a3,a4,a5⟩:=okS_iff.1 (hok j hj)
  have b:1 ≤ (K.set 0 2).getD j 0 ∧ (K.set 0 2).getD j 0 ≤ 4:=by rw [g];split <;> omega
  refine ⟨b.1,b.2,a3,a4,fun hp=>?_,fun hp=>?_,fun hp=>?_⟩
  ·rw [if_pos hp] at a5;exact gs j a5
  ·rw [if_neg hp,Bool.and_eq_true] at a5
   have:=gs (P.getD j 0).toNat a5.1
   exact this
  ·rw [if_neg hp,Bool.and_eq_true,Bool.or_eq_true] at a5
   rcases a5.2 with h|h
   ·exact .inl (gs j h)
   ·by_cases hz:P.getD j 0 = 0
    ·exact .inr (.inr ⟨hz,Nat.zero_le _⟩)
    ·refine .inr (.inl ?_)
     unfold rd at h ⊢
     rw [g,if_neg (by omega)];exact eq_of_beq h
 ·rw [List.length_set] at hj
  have hj0:¬ 0 = j:=by intro e;rw [g,if_pos e] at h3;omega
  rw [g,if_neg hj0] at h3
  obtain ⟨m,a,b,c⟩:=hb j hj h3
  exact ⟨m,a,b,gs m c⟩
theorem Inv2.keep {K P:List Int} {i:Nat} (h:Inv2 K P i) (hc:¬ (P.getD i 0 = 0 ∧ 3 ≤ K.getD i 0)):Inv2 K P (i + 1):=by
 obtain ⟨hn,h1,h0,h2,hok,hb⟩:=h
 refine ⟨hn,h1,h0,h2,fun j hj=>?_,hb⟩
 obtain ⟨a1,a2,a3,a4,a5,a6,a7⟩:=hok j hj
 refine ⟨a1,a2,a3,a4,a5,a6,fun hp=>?_⟩
 rcases a7 hp with h|h|⟨h,hi⟩
 ·exact .inl h
 ·exact .inr (.inl h)
 ·by_cases e:i = j
  ·subst e
   exact .inl (solidB_iff.2 (by omega))
  ·exact .inr (.inr ⟨h,by omega⟩)
theorem Inv2.turn {K P:List Int} {i:Nat} (h:Inv2 K P i) (hi:i < K.length) (hp0:P.getD i 0 = 0) (h3:3 ≤ K.getD i 0):Inv2 (K.set i 1) P (i + 1):=by
 obtain ⟨hn,h1,h0,h2,hok,hb⟩:=h
 have g:∀ j,(K.set i 1).getD j 0 = if i = j then 1 else K.getD j 0:=fun j=>getD_set hi
 have gs:∀ j,solidB (K.getD j 0) = true → solidB ((K.set i 1).getD j 0) = true:=fun j hj=>by
  rw [g]
  by_cases e:i = j
  ·rw [if_pos e];rfl
  ·rw [if_neg e];exact hj
 have hi0:i ≠ 0:=by intro e;rw [e] at h3;omega
 refine ⟨by rw [List.length_set];exact hn,by rw [List.length_set];exact h1,h0,by rw [g,if_neg hi0];exact h2,fun j hj=>?_,fun j hj hj3=>?_⟩
 ·rw [List.length_set] at hj
  obtain ⟨a1,a2,a3,a4,a5,a6,a7⟩:=hok j hj
  have b:1 ≤ (K.set i 1).getD j 0 ∧ (K.set i 1).getD j 0 ≤ 4:=by rw [g];split <;> omega
  refine ⟨b.1,b.2,a3,a4,fun hp=>gs j (a5 hp),fun hp=>gs _ (a6 hp),fun hp=>?_⟩
  rcases a7 hp with h|h|⟨h,hij⟩
  ·exact .inl (gs j h)
  ·refine .inr (.inl ?_)
   unfold rd at h ⊢
   rw [g]
   by_cases e:i = (P.getD j 0).toNat
   ·rw [if_pos e]
   ·rw [if_neg e];exact h
  ·by_cases e:i = j
   ·subst e
    exact .inl (by rw [g,if_pos rfl];rfl)
   ·exact .inr (.inr ⟨h,by omega⟩)
 ·rw [List.length_set] at hj
  have hji:¬ i = j:=by intro e;rw [g,if_pos e] at hj3;omega
  rw [g,if_neg hji] at hj3
  obtain ⟨m,a,b,c⟩:=hb j hj hj3
  exact ⟨m,a,b,gs m c⟩
end Go.Proofs.Ytnomeokicfpidaa.M
namespace Go.Proofs.Ytnomeokicfpidaa.M
open Go.RowKit Go.Proofs.YtnomeokicfpidaaW.PrintWords Go.Proofs.YtnomeokicfpidaaW.PrintLast Go.Proofs.YtnomeokicfpidaaW.PrintMore
set_option linter.unusedVariables false
theorem wraps_u32 (n:Int) (h₀:0 ≤ n) (h₁:n < 2 ^ 32):IntKind.u32.wrap n = n:=by rw [IntKind.wrap_u32];omega
theorem u32_and (a b:Nat) (ha:a < 4294967296) (hb:b < 4294967296):Go.bits .and .u32 (a:Int) (b:Int) = ((a &&& b:Nat):Int):=(bits_nat .u32 32 (by decide) wraps_u32 a b ha hb).1
theorem u32_or (a b:Nat) (ha:a < 4294967296) (hb:b < 4294967296):Go.bits .or .u32 (a:Int) (b:Int) = ((a ||| b:Nat):Int):=(bits_nat .u32 32 (by decide) wraps_u32 a b ha hb).2
theorem shr_nat (a i:Nat) (ha:a < 4294967296):shr .u32 (a:Int) (i:Int) = ((a >>> i:Nat):Int):=by
 unfold shr
 rw [Int.toNat_natCast,Nat.shiftRight_eq_div_pow,show IntKind.u32.bits = 32 from rfl]
 by_cases h:i ≤ 32
 ·rw [Nat.min_eq_left h];simp
 ·rw [Nat.min_eq_right (by omega)]
  have h1:a / 2 ^ i = 0:=Nat.div_eq_of_lt (Nat.lt_of_lt_of_le (show a < 2 ^ 32 from ha) (Nat.pow_le_pow_right (by decide) (by omega)))
  have h2:(a:Int) / 2 ^ 32 = 0:=by
   have:a / 4294967296 = 0:=Nat.div_eq_of_lt ha
   omega
  rw [h1,h2];rfl
theorem shr_lt (a i:Nat) (ha:a < 4294967296):a >>> i < 4294967296:=by
 rw [Nat.shiftRight_eq_div_pow];exact Nat.lt_of_le_of_lt (Nat.div_le_self _ _) ha
theorem shl_one (i:Nat) (hi:i < 32):shl .u32 1 (i:Int) = ((2 ^ i:Nat):Int):=by
 unfold shl
 rw [Int.toNat_natCast,show IntKind.u32.bits = 32 from rfl,Nat.min_eq_left (by omega),Int.one_mul,wraps_u32]
 ·simp
 ·have:(0:Int) < 2 ^ i:=Int.pow_pos (by decide)
  omega
 ·have:2 ^ i < 2 ^ 32:=Nat.pow_lt_pow_right (by decide) hi
  exact_mod_cast this
theorem pow_lt32 {i:Nat} (hi:i < 32):2 ^ i < 4294967296:=(show 2 ^ i < 2 ^ 32 from Nat.pow_lt_pow_right (by decide) hi)
theorem bit1 (a i:Nat) (ha:a < 4294967296):Go.bits .and .u32 (shr .u32 (a:Int) (i:Int)) 1 = if a.testBit i then 1 else 0:=by
 rw [shr_nat a i ha,show (1:Int) = ((1:Nat):Int) from rfl,u32_and _ _ (shr_lt a i ha) (by decide)]
 rw [Nat.testBit,Nat.and_comm]
 rw [Nat.and_comm,Nat.and_one_is_mod]
 have:(a >>> i) % 2 = 0 ∨ (a >>> i) % 2 = 1:=by omega
 rcases this with h|h
 ·rw [h];rfl
 ·rw [h];rfl
theorem u64w (i:Nat) (hi:i < 4611686018427387904):IntKind.u64.wrap (i:Int) = (i:Int):=by
 have h:IntKind.u64.wrap (i:Int) = (i:Int) % 18446744073709551616:=by simp [IntKind.wrap,IntKind.bits,IntKind.signed]
 rw [h];omega
theorem bitLenAux_le:∀ (f n x:Nat),x < 2 ^ f → (Lib.bitLenAux f x ≤ n ↔ x < 2 ^ n):=by
 intro f
 induction f with
 | zero =>
  intro n x hx
  have:x = 0:=by simpa using hx
  subst this
  simp [Lib.bitLenAux,Nat.two_pow_pos]
 | succ f ih =>
  intro n x hx
  rw [Lib.bitLenAux]
  by_cases h0:x = 0
  ·rw [if_pos h0,h0];simp [Nat.two_pow_pos]
  ·rw [if_neg h0]
   cases n with
   | zero=>simp;omega
   | succ n =>
    have:=ih n (x / 2) (by rw [Nat.pow_succ] at hx;omega)
    rw [Nat.pow_succ]
    constructor
    ·intro h
     have:=this.1 (by omega)
     omega
    ·intro h
     have:=this.2 (by omega)
     omega
theorem bitLen_le (n x:Nat) (hx:x < 18446744073709551616):Lib.bitLen x ≤ n ↔ x < 2 ^ n:=bitLenAux_le 64 n x hx
end Go.Proofs.Ytnomeokicfpidaa.M
namespace Go.Proofs.Ytnomeokicfpidaa.M
open Go.RowKit Go.Proofs.YtnomeokicfpidaaW.PrintWords Go.Proofs.YtnomeokicfpidaaW.PrintLast Go.Proofs.YtnomeokicfpidaaW.PrintMore Go.Proofs.Ytnomeokicfpidaa.Q
set_option linter.unusedVariables false
def cnt (s:Nat) (L:List Int):Nat:=L.countP (fun x=>s.testBit x.toNat)
def heldB (K P:List Int) (s:Nat) (a:Int) (one:Bool):Bool:=if one = true then cnt s (kids P a) == min 1 (kids P a).length else cnt s (kids P a) == (kids P a).length
def atB (K P:List Int) (s:Nat) (i:Nat):Bool:=!s.testBit i || (solidB (K.getD i 0) && ((P.getD i 0 == -1 || s.testBit (P.getD i 0).toNat) && heldB K P s (i:Int) (K.getD i 0 == 1)))
def properB (K P:List Int) (s:Nat):Bool:=decide (s < 2 ^ K.length) && (heldB K P s (-1) true && (List.range' 0 K.length).all (atB K P s))
theorem held_l0 (s:Nat) (hs:s < 4294967296) (one:Bool) (L:List Int) (hL:∀ x ∈ L,0 ≤ x) (hl:L.length < 1099511627776):∀ (d i c:Nat),i + d = L.length → c ≤ i →
  Ev (fun k=>q28.l0 k (s:Int) one L (c:Int) L (L.length:Int) (i:Int)) (if one = true then c + cnt s (L.drop i) == min 1 L.length else c + cnt s (L.drop i) == L.length):=by
 intro d
 induction d with
 | zero =>
  intro i c hi hc
  refine Ev.ret (fun k=>?_)
  simp only [q28.l0]
  rw [if_neg (by omega),List.drop_of_length_le (by omega),mn_eq]
  cases one with
  | true =>
   rw [if_pos rfl,if_pos rfl,show cnt s [] = 0 from rfl,Nat.add_zero]
   congr 1
   rw [Bool.eq_iff_iff,beq_iff_eq,beq_iff_eq];omega
  | false =>
   rw [if_neg (by simp),if_neg (by simp),show cnt s [] = 0 from rfl,Nat.add_zero]
   congr 1
   rw [Bool.eq_iff_iff,beq_iff_eq,beq_iff_eq];omega
 | succ d ih =>
  intro i c hi hc
  have hd:L.drop i = L.getD i 0 :: L.drop (i + 1):=by
   rw [List.drop_eq_getElem_cons (by omega),List.getD_eq_getElem?_getD,List.getElem?_eq_getElem (by omega)];rfl
  have hm:L.getD i 0 ∈ L:=by rw [List.getD_eq_getElem?_getD,List.getElem?_eq_getElem (by omega)];exact List.getElem_mem _
  obtain ⟨x,hx⟩:=Int.eq_ofNat_of_zero_le (hL _ hm)
  have hcn:cnt s (L.drop i) = (if s.testBit x then 1 else 0) + cnt s (L.drop (i + 1)):=by
   rw [hd,hx];unfold cnt;rw [List.countP_cons]
   simp only [Int.toNat_natCast];omega
  rw [hcn]
  clear hcn
  have hw:=w1 i (by omega)
  by_cases ht:s.testBit x = true
  ·refine Ev.st (Ev.val (ih (i + 1) (c + 1) (by omega) (by omega)) (by rw [ht,if_pos rfl];simp only [Nat.add_assoc])) (fun k=>?_)
   simp only [q28.l0]
   rw [if_pos (by omega),if_pos (by omega),if_pos (by omega),rd_nat,hx,if_pos (by omega),bit1 s x hs,ht,if_pos rfl,if_pos rfl,hw,w1 c (by omega)]
  ·refine Ev.st (Ev.val (ih (i + 1) c (by omega) (by omega)) (by rw [eq_false_of_ne_true ht,if_neg (show ¬ (false = true) by simp),Nat.zero_add])) (fun k=>?_)
   simp only [q28.l0]
   rw [if_pos (by omega),if_pos (by omega),if_pos (by omega),rd_nat,hx,if_pos (by omega),bit1 s x hs,if_neg ht,if_neg (by omega),hw]
theorem held_f (K P:List Int) (s:Nat) (hs:s < 4294967296) (a:Int) (one:Bool) (hP:P.length < 1099511627776):Ev (fun k=>q28.f k K P (s:Int) a one) (heldB K P s a one):=by
 unfold q28.f
 refine Ev.bd (Kids_f K P a hP) ?_
 have h:=held_l0 s hs one (kids P a) (fun x hx=>by obtain ⟨j,rfl,_⟩:=mem_kids.1 hx;omega) (Nat.lt_of_le_of_lt (kids_len P a) hP) (kids P a).length 0 0 (by omega) (Nat.le_refl _)
 refine Ev.val h ?_
 unfold heldB
 simp only [List.drop_zero,Nat.zero_add]
theorem Proper_l0 (K P:List Int) (hn:P.length = K.length) (h24:K.length ≤ 24) (hp:∀ j,j < K.length → -1 ≤ P.getD j 0 ∧ P.getD j 0 < K.length) (s:Nat) (hs:s < 4294967296):∀ (d i:Nat),i + d = K.length →
  Ev (fun k=>q20.l0 k (s:Int) K (K.length:Int) (i:Int) K P) ((List.range' i d).all (atB K P s)):=by
 intro d
 induction d with
 | zero =>
  intro i hi
  refine Ev.ret (fun k=>?_)
  simp only [q20.l0]
  rw [if_neg (by omega)];simp
 | succ d ih =>
  intro i hi
  rw [List.range'_succ,List.all_cons]
  have ih':=ih (i + 1) (by omega)
  have hw:=w1 i (by omega)
  have hpi:=hp i (by omega)
  generalize hX:(List.range' (i + 1) d).all (atB K P s) = X at ih'
  by_cases hb:s.testBit i = true
  ·by_cases hk:solidB (K.getD i 0) = true
   ·have hh:=held_f K P s hs (i:Int) (K.getD i 0 == 1) (by omega)
    have tail:Ev (fun k=>(q28.f k K P (s:Int) (i:Int) (K.getD i 0 == 1)).bind fun t=>if t = true then q20.l0 k (s:Int) K (K.length:Int) ((i + 1:Nat):Int) K P else some false) (heldB K P s (i:Int) (K.getD i 0 == 1) && X):=by
     refine Ev.bd hh (Ev.iff (fun h=>?_) (fun h=>?_))
     ·rw [h];exact ih'
     ·rw [eq_false_of_ne_true h];exact Ev.now _
    by_cases h1:P.getD i 0 = -1
    ·refine Ev.st (Ev.val tail (by unfold atB;rw [hb,hk,h1];simp)) (fun k=>?_)
     simp only [q20.l0]
     rw [if_pos (by omega),if_pos (by omega),if_pos (by omega),bit1 s i hs,if_pos hb,if_pos rfl,rd_nat,solid_f,Option.bind_some,if_pos hk,if_pos (by omega),rd_nat,if_pos h1,hw]
    ·obtain ⟨p,hpe⟩:=Int.eq_ofNat_of_zero_le (show 0 ≤ P.getD i 0 by omega)
     by_cases ht:s.testBit p = true
     ·refine Ev.st (Ev.val tail (by unfold atB;rw [hb,hk,hpe,Int.toNat_natCast,ht];simp)) (fun k=>?_)
      simp only [q20.l0]
      rw [if_pos (by omega),if_pos (by omega),if_pos (by omega),bit1 s i hs,if_pos hb,if_pos rfl,rd_nat,solid_f,Option.bind_some,if_pos hk,if_pos (by omega),rd_nat,if_neg h1,hpe,if_pos (by omega),bit1 s p hs,if_pos ht,if_neg (by omega),hw]
     ·refine Ev.ret (fun k=>?_)
      simp only [q20.l0]
      rw [if_pos (by omega),if_pos (by omega),if_pos (by omega),bit1 s i hs,if_pos hb,if_pos rfl,rd_nat,solid_f,Option.bind_some,if_pos hk,if_pos (by omega),rd_nat,if_neg h1,hpe,if_pos (by omega),bit1 s p hs,if_neg ht,if_pos rfl]
      unfold atB
      rw [hb,hk,hpe,Int.toNat_natCast,eq_false_of_ne_true ht,show ((p:Int) == -1) = false from beq_eq_false_iff_ne.mpr (by omega)];rfl
   ·refine Ev.ret (fun k=>?_)
    simp only [q20.l0]
    rw [if_pos (by omega),if_pos (by omega),if_pos (by omega),bit1 s i hs,if_pos hb,if_pos rfl,rd_nat,solid_f,Option.bind_some,if_neg hk]
    unfold atB;rw [hb,eq_false_of_ne_true hk];rfl
  ·refine Ev.st (Ev.val ih' (by unfold atB;rw [eq_false_of_ne_true hb];rfl)) (fun k=>?_)
   simp only [q20.l0]
   rw [if_pos (by omega),if_pos (by omega),if_pos (by omega),bit1 s i hs,if_neg hb,if_neg (by omega),hw]
theorem Proper_f (K P:List Int) (hn:P.length = K.length) (h24:K.length ≤ 24) (hp:∀ j,j < K.length → -1 ≤ P.getD j 0 ∧ P.getD j 0 < K.length) (s:Nat) (hs:s < 4294967296) :
  Ev (fun k=>q20.f k K P (s:Int)) (properB K P s):=by
 have hl:q30.f (s:Int) = some ((Lib.bitLen s:Nat):Int):=by
  unfold q30.f
  rw [if_pos (by omega),if_pos (by omega),Int.toNat_natCast]
 have hb:=bitLen_le K.length s (by omega)
 have j0:∀ b:Bool,Ev (fun k=>q20.j0 k (s:Int) b K P) (!b && (List.range' 0 K.length).all (atB K P s)):=by
  intro b
  cases b with
  | true =>
   refine Ev.ret (fun k=>?_)
   simp only [q20.j0]
   rw [if_pos trivial];rfl
  | false =>
   refine Ev.st (Proper_l0 K P hn h24 hp s hs K.length 0 (by omega)) (fun k=>?_)
   simp only [q20.j0]
   rw [if_neg (by simp)];rfl
 unfold q20.f
 simp only [hl,Option.bind_some]
 unfold properB
 by_cases hc:s < 2 ^ K.length
 ·rw [decide_eq_true hc,Bool.true_and]
  refine Ev.neg (by have:=hb.2 hc;omega) ?_
  refine Ev.bd (held_f K P s hs (-1) true (by omega)) (Ev.val (j0 _) (by simp))
 ·rw [decide_eq_false hc,Bool.false_and]
  exact Ev.pos (by have:=fun h=>hc (hb.1 h);omega) (Ev.val (j0 true) rfl)
end Go.Proofs.Ytnomeokicfpidaa.M
namespace Go.Proofs.Ytnomeokicfpidaa.M
open Go.RowKit Go.Proofs.YtnomeokicfpidaaW.PrintWords Go.Proofs.YtnomeokicfpidaaW.PrintLast Go.Proofs.YtnomeokicfpidaaW.PrintMore
set_option linter.unusedVariables false
theorem Inv.tree {K P:List Int} (h:Inv K P):Tree P:=fun j hj=>by
 obtain ⟨_,_,a,b,_⟩:=okS_iff.1 (h.2.2.1 j (by have:=h.1;omega))
 exact ⟨a,b⟩
theorem kids_nodup (P:List Int) (a:Int):(kids P a).Nodup:=by
 unfold kids kidsFrom List.Nodup
 rw [List.pairwise_map]
 refine List.Pairwise.imp ?_ (List.Pairwise.filter _ (List.nodup_range' (s:=0) (n:=P.length) 1))
 intro x y h e
 exact h (by omega)
def sk (K P:List Int) (a:Int):List Int:=(kids P a).filter (fun x=>solidB (rd K x))
def one (K:List Int) (a:Int):Bool:=a == -1 || rd K a == 1
structure LP (K P:List Int) (a:Int) (s:Nat):Prop where
 mem:∀ j:Nat,s.testBit j = true → j < K.length ∧ (j:Int) ≠ a ∧ Un P j a ∧ solidB (K.getD j 0) = true ∧ (P.getD j 0 = a ∨ (0 ≤ P.getD j 0 ∧ s.testBit (P.getD j 0).toNat = true))
 own:heldB K P s a (one K a) = true
 all:∀ j:Nat,s.testBit j = true → heldB K P s (j:Int) (one K (j:Int)) = true
theorem one_nat (K:List Int) (j:Nat):one K (j:Int) = (K.getD j 0 == 1):=by
 unfold one
 rw [show ((j:Int) == -1) = false from beq_eq_false_iff_ne.mpr (by omega),rd_nat];rfl
theorem cnt_congr {s s' : Nat} {L:List Int} (h:∀ x ∈ L,s.testBit x.toNat = s'.testBit x.toNat):cnt s L = cnt s' L:=by
 unfold cnt
 exact List.countP_congr (fun x hx=>by rw [h x hx])
theorem heldB_congr {K P:List Int} {s s' : Nat} {a:Int} {o:Bool} (h:∀ x ∈ kids P a,s.testBit x.toNat = s'.testBit x.toNat):heldB K P s a o = heldB K P s' a o:=by
 unfold heldB;rw [cnt_congr h]
theorem cnt_all {s:Nat} {L:List Int}:cnt s L = L.length ↔ ∀ x ∈ L,s.testBit x.toNat = true:=by
 unfold cnt
 exact List.countP_eq_length
theorem cnt_zero {s:Nat} {L:List Int}:cnt s L = 0 ↔ ∀ x ∈ L,¬ s.testBit x.toNat = true:=by
 unfold cnt
 exact List.countP_eq_zero
theorem cnt_one {s:Nat}:∀ {L:List Int},L.Nodup → (cnt s L = 1 ↔ ∃ k ∈ L,s.testBit k.toNat = true ∧ ∀ m ∈ L,s.testBit m.toNat = true → m = k)
 | [],_=>by simp [cnt]
 | x :: L,hd=>by
  obtain ⟨h1,h2⟩:=List.nodup_cons.1 hd
  have ih:=cnt_one (s:=s) h2
  have hc:cnt s (x :: L) = cnt s L + (if s.testBit x.toNat = true then 1 else 0):=by unfold cnt;rw [List.countP_cons]
  rw [hc]
  by_cases hx:s.testBit x.toNat = true
  ·rw [if_pos hx]
   constructor
   ·intro h
    have h0:=cnt_zero.1 (show cnt s L = 0 by omega)
    refine ⟨x,List.mem_cons_self ..,hx,fun m hm hb=>?_⟩
    rcases List.mem_cons.1 hm with rfl|hm
    ·rfl
    ·exact absurd hb (h0 m hm)
   ·rintro ⟨k,hk,hb,hu⟩
    have hxk:=hu x (List.mem_cons_self ..) hx
    have:cnt s L = 0:=cnt_zero.2 (fun m hm hb'=>h1 (by
     have:=hu m (List.mem_cons_of_mem _ hm) hb'
     rw [hxk,← this];exact hm))
    omega
  ·rw [if_neg hx,Nat.add_zero,ih]
   constructor
   ·rintro ⟨k,hk,hb,hu⟩
    refine ⟨k,List.mem_cons_of_mem _ hk,hb,fun m hm hb'=>?_⟩
    rcases List.mem_cons.1 hm with rfl|hm
    ·exact absurd hb' hx
    ·exact hu m hm hb'
   ·rintro ⟨k,hk,hb,hu⟩
    rcases List.mem_cons.1 hk with rfl|hk
    ·exact absurd hb hx
    ·exact ⟨k,hk,hb,fun m hm hb'=>hu m (List.mem_cons_of_mem _ hm) hb'⟩
theorem held_one {K P:List Int} {s:Nat} {a:Int}:heldB K P s a true = true ↔ kids P a = [] ∨ ∃ k ∈ kids P a,s.testBit k.toNat = true ∧ ∀ m ∈ kids P a,s.testBit m.toNat = true → m = k:=by
 unfold heldB
 rw [if_pos rfl,beq_iff_eq]
 by_cases h:kids P a = []
 ·rw [h];simp [cnt]
 ·have:0 < (kids P a).length:=List.length_pos_iff.2 h
  rw [Nat.min_eq_left (by omega),cnt_one (kids_nodup P a)]
  constructor
  ·exact .inr
  ·rintro (h'|h')
   ·exact absurd h' h
   ·exact h'
theorem held_all {K P:List Int} {s:Nat} {a:Int}:heldB K P s a false = true ↔ ∀ m ∈ kids P a,s.testBit m.toNat = true:=by
 unfold heldB
 rw [if_neg (by simp),beq_iff_eq]
 exact cnt_all
section
variable {K P:List Int} (hI:Inv K P)
include hI
theorem kid_par {a x:Int} (hx:x ∈ kids P a) (ha:a ≠ -1):0 ≤ a ∧ a < K.length ∧ solidB (rd K a) = true ∧ (solidB (rd K x) = true ∨ rd K a = 1):=by
 obtain ⟨j,rfl,h1,h2⟩:=mem_kids.1 hx
 have hn:=hI.1
 obtain ⟨_,_,b1,b2,b3⟩:=okS_iff.1 (hI.2.2.1 j (by omega))
 rw [h2] at b1 b2 b3
 rw [if_neg ha,Bool.and_eq_true,Bool.or_eq_true,beq_iff_eq] at b3
 rw [rd_nat]
 exact ⟨by omega,by omega,b3.1,b3.2⟩
theorem sk_nil {a:Int} (h:sk K P a = []):kids P a = []:=by
 have hn:=hI.1
 cases hk:kids P a with
 | nil=>rfl
 | cons x L =>
  exfalso
  have hx:x ∈ kids P a:=by rw [hk];exact List.mem_cons_self ..
  obtain ⟨j,rfl,h1,h2⟩:=mem_kids.1 hx
  have:∃ m:Nat,m < K.length ∧ P.getD m 0 = a ∧ solidB (K.getD m 0) = true:=by
   obtain ⟨a1,a2,_⟩:=okS_iff.1 (hI.2.2.1 j (by omega))
   by_cases h3:3 ≤ K.getD j 0
   ·obtain ⟨m,b,c,d⟩:=hI.2.2.2.1 j (by omega) h3
    exact ⟨m,by omega,by rw [c,h2],d⟩
   ·exact ⟨j,by omega,h2,solidB_iff.2 (by omega)⟩
  obtain ⟨m,b,c,d⟩:=this
  have:(m:Int) ∈ sk K P a:=List.mem_filter.2 ⟨mem_kids.2 ⟨m,rfl,by omega,c⟩,by rw [rd_nat];exact d⟩
  rw [h] at this;cases this
theorem one_false {a:Int} (h:sk K P a ≠ []):one K a = false ↔ (0 ≤ a ∧ rd K a = 2):=by
 obtain ⟨x,hx⟩:=List.exists_mem_of_ne_nil _ h
 have hx':=(List.mem_filter.1 hx).1
 unfold one
 by_cases e:a = -1
 ·subst e;simp
 ·obtain ⟨h0,_,h2,_⟩:=kid_par hI hx' e
  rw [show (a == -1) = false from beq_eq_false_iff_ne.mpr e,Bool.false_or,beq_eq_false_iff_ne]
  have:=solidB_iff.1 h2
  constructor
  ·intro h;exact ⟨h0,by omega⟩
  ·intro h;omega
theorem LP.clos {a:Int} {s:Nat} (h:LP K P a s) {x m:Int} (hu:Un P x m) (hx0:0 ≤ x) (hx:s.testBit x.toNat = true) (hm:m ≠ a) (hma:Un P m a):0 ≤ m ∧ s.testBit m.toNat = true:=by
 have hT:=hI.tree
 induction hu with
 | refl=>exact ⟨hx0,hx⟩
 | @up x m h0 h1 hu ih =>
  obtain ⟨_,e1,e2,_,e3⟩:=h.mem x.toNat hx
  rw [show ((x.toNat:Nat):Int) = x by omega] at e1 e2
  have er:P.getD x.toNat 0 = rd P x:=rfl
  rw [er] at e3
  rcases e3 with e3|⟨e3,e4⟩
  ·rw [e3] at hu
   have l1:=hu.le hT
   have l2:=hma.le hT
   omega
  ·exact ih e3 e4 hm hma
end
def hold (K P R:List Int) (x:Int):Prop:=if one K x = true then (kids P x = [] ∨ ∃ k ∈ kids P x,k ∈ R ∧ ∀ m ∈ kids P x,m ∈ R → m = k) else ∀ m ∈ kids P x,m ∈ R
structure BL (K P:List Int) (a:Int) (R:List Int):Prop where
 nd:R.Nodup
 el:∀ x ∈ R,0 ≤ x ∧ x < K.length ∧ solidB (rd K x) = true ∧ Un P x a ∧ x ≠ a
 ord:∀ pre x post,R = pre ++ x :: post → rd P x = a ∨ rd P x ∈ pre
 hel:∀ x ∈ R,hold K P R x
 own:hold K P R a
theorem BL.par {K P:List Int} {a:Int} {R:List Int} (h:BL K P a R) {x:Int} (hx:x ∈ R):rd P x = a ∨ rd P x ∈ R:=by
 obtain ⟨pre,post,rfl⟩:=List.append_of_mem hx
 rcases h.ord pre x post rfl with e|e
 ·exact .inl e
 ·exact .inr (List.mem_append_left _ e)
theorem hold_congr {K P R R' : List Int} {x:Int} (h:∀ m ∈ kids P x,m ∈ R ↔ m ∈ R'):hold K P R x ↔ hold K P R' x:=by
 unfold hold
 by_cases o:one K x = true
 ·rw [if_pos o,if_pos o]
  constructor
  ·rintro (e|⟨k,hk,hb,hu⟩)
   ·exact .inl e
   ·exact .inr ⟨k,hk,(h k hk).1 hb,fun m hm hb'=>hu m hm ((h m hm).2 hb')⟩
  ·rintro (e|⟨k,hk,hb,hu⟩)
   ·exact .inl e
   ·exact .inr ⟨k,hk,(h k hk).2 hb,fun m hm hb'=>hu m hm ((h m hm).1 hb')⟩
 ·rw [if_neg o,if_neg o]
  exact ⟨fun g m hm=>(h m hm).1 (g m hm),fun g m hm=>(h m hm).2 (g m hm)⟩
theorem mem_kids_rd {P:List Int} {a x:Int} (h:x ∈ kids P a):0 ≤ x ∧ x < P.length ∧ rd P x = a:=by
 obtain ⟨j,rfl,h1,h2⟩:=mem_kids.1 h
 rw [rd_nat];exact ⟨by omega,by omega,h2⟩
theorem kids_of_rd {P:List Int} {a x:Int} (h0:0 ≤ x) (h1:x < P.length) (h:rd P x = a):x ∈ kids P a :=
 mem_kids.2 ⟨x.toNat,by omega,by omega,h⟩
theorem Un.kid1 {P:List Int} {a x:Int} (h:x ∈ kids P a):Un P x a:=by
 obtain ⟨h0,h1,e⟩:=mem_kids_rd h
 exact .up h0 h1 (e ▸ .refl _)
theorem BL.leaf {K P:List Int} {a:Int} (h:kids P a = []):BL K P a []:=by
 refine ⟨List.nodup_nil,by simp,fun pre x post e=>by simp at e,by simp,?_⟩
 unfold hold
 split
 ·exact .inl h
 ·rw [h];simp
section
variable {K P:List Int} (hO:Ok K P)
include hO
theorem sib_eq {a k m x:Int} (hk:k ∈ kids P a) (hm:m ∈ kids P a) (h:Un P x k) (h' : Un P x m):k = m:=by
 obtain ⟨j,rfl,h1,h2⟩:=mem_kids.1 hk
 obtain ⟨i,rfl,h3,h4⟩:=mem_kids.1 hm
 exact congrArg _ (Un.sib hO.tree h1 h3 h2 h4 h h')
theorem BL.some {a:Int} (L:List Int) (F:Int → List Int) (hd:L.Nodup) (hL:∀ k ∈ L,k ∈ kids P a ∧ solidB (rd K k) = true ∧ BL K P k (F k))
  (hc:kids P a = [] ∨ (one K a = true ∧ ∃ k,L = [k]) ∨ (one K a = false ∧ ∀ m ∈ kids P a,m ∈ L)):BL K P a (L.flatMap (fun k=>k :: F k)):=by
 have hT:=hO.tree
 have hn:=hO.1
 have mem:∀ x,x ∈ L.flatMap (fun k=>k :: F k) ↔ ∃ k ∈ L,x = k ∨ x ∈ F k:=by
  intro x;rw [List.mem_flatMap];simp only [List.mem_cons]
 have lies:∀ x k,k ∈ L → (x = k ∨ x ∈ F k) → Un P x k:=by
  rintro x k hk (rfl|h)
  ·exact .refl _
  ·exact ((hL k hk).2.2.el x h).2.2.2.1
 have kin:∀ m ∈ kids P a,m ∈ L.flatMap (fun k=>k :: F k) ↔ m ∈ L:=by
  intro m hm
  rw [mem]
  constructor
  ·rintro ⟨k,hk,h⟩
   have:=sib_eq hO hm (hL k hk).1 (.refl _) (lies m k hk h)
   rw [this];exact hk
  ·intro h;exact ⟨m,h,.inl rfl⟩
 have deep:∀ k ∈ L,∀ y,Un P y k → ∀ m ∈ kids P y,(m ∈ L.flatMap (fun k=>k :: F k) ↔ m ∈ F k):=by
  intro k hk y hy m hm
  have hmy:=Un.kid1 hm
  have hmk:Un P m k:=hmy.trans hy
  have hne:m ≠ k:=by
   rintro rfl
   obtain ⟨m0,m1,m2⟩:=mem_kids_rd hm
   have:=hT.rdP m0 m1
   have:=hy.le hT
   omega
  rw [mem]
  constructor
  ·rintro ⟨k',hk',h⟩
   have e:=sib_eq hO (hL k hk).1 (hL k' hk').1 hmk (lies m k' hk' h)
   rw [← e] at h
   exact h.resolve_left hne
  ·intro h;exact ⟨k,hk,.inr h⟩
 refine ⟨?_,?_,?_,?_,?_⟩
 ·rw [List.Nodup,List.pairwise_flatMap]
  refine ⟨fun k hk=>?_,?_⟩
  ·have b:=(hL k hk).2.2
   exact List.nodup_cons.2 ⟨fun h=>((b.el k h).2.2.2.2) rfl,b.nd⟩
  ·refine List.Pairwise.imp_of_mem (R:=fun a b=>a ≠ b) ?_ hd
   intro k k' hk hk' hne x hx y hy e
   rw [List.mem_cons] at hx hy
   subst e
   exact hne (sib_eq hO (hL k hk).1 (hL k' hk').1 (lies x k hk hx) (lies x k' hk' hy))
 ·intro x hx
  obtain ⟨k,hk,h⟩:=(mem x).1 hx
  obtain ⟨k0,k1,k2⟩:=mem_kids_rd (hL k hk).1
  have hak:=(hO.kid (hL k hk).1).2.2.1
  rcases h with rfl|h
  ·exact ⟨k0,by omega,(hL x hk).2.1,Un.kid1 (hL x hk).1,by omega⟩
  ·obtain ⟨x0,x1,x2,x3,x4⟩:=(hL k hk).2.2.el x h
   have:=x3.le hT
   exact ⟨x0,x1,x2,x3.trans (Un.kid1 (hL k hk).1),by omega⟩
 ·intro pre x post e
  have main:∀ (L0:List Int) (pre post:List Int),(∀ k ∈ L0,k ∈ L) → L0.flatMap (fun k=>k :: F k) = pre ++ x :: post → rd P x = a ∨ rd P x ∈ pre:=by
   intro L0
   induction L0 with
   | nil=>intro pre post _ e;simp at e
   | cons k L0 ih =>
    intro pre post hsub e
    rw [List.flatMap_cons] at e
    have hk:=hsub k (List.mem_cons_self ..)
    rcases List.append_eq_append_iff.1 e with ⟨ls,h1,h2⟩|⟨bs,h1,h2⟩
    ·
     rcases ih ls post (fun k' h=>hsub k' (List.mem_cons_of_mem _ h)) h2 with h|h
     ·exact .inl h
     ·exact .inr (by rw [h1];exact List.mem_append_right _ h)
    ·
     cases bs with
     | nil =>
      simp only [List.append_nil,List.nil_append] at h1 h2
      rcases ih [] post (fun k' h=>hsub k' (List.mem_cons_of_mem _ h)) (by simpa using h2.symm) with h|h
      ·exact .inl h
      ·cases h
     | cons b bs =>
      simp only [List.cons_append,List.cons.injEq] at h2
      obtain ⟨rfl,h2⟩:=h2
      cases pre with
      | nil =>
       simp only [List.nil_append,List.cons.injEq] at h1
       rw [← h1.1]
       exact .inl (mem_kids_rd (hL k hk).1).2.2
      | cons p pre =>
       simp only [List.cons_append,List.cons.injEq] at h1
       obtain ⟨rfl,h1⟩:=h1
       rcases (hL k hk).2.2.ord pre x bs h1 with h|h
       ·exact .inr (by rw [h];exact List.mem_cons_self ..)
       ·exact .inr (List.mem_cons_of_mem _ h)
  exact main L pre post (fun k h=>h) e
 ·intro x hx
  obtain ⟨k,hk,h⟩:=(mem x).1 hx
  rw [hold_congr (deep k hk x (lies x k hk h))]
  rcases h with rfl|h
  ·exact (hL x hk).2.2.own
  ·exact (hL k hk).2.2.hel x h
 ·rw [hold_congr kin]
  unfold hold
  rcases hc with e|⟨o,k,rfl⟩|⟨o,h⟩
  ·split
   ·exact .inl e
   ·rw [e];simp
  ·rw [if_pos o]
   exact .inr ⟨k,(hL k (List.mem_singleton.2 rfl)).1,List.mem_singleton.2 rfl,fun m _ hm=>List.mem_singleton.1 hm⟩
  ·rw [if_neg (by rw [o];simp)]
   exact h
theorem BL.single {a k:Int} {R:List Int} (hk:k ∈ kids P a) (hs:solidB (rd K k) = true) (ho:one K a = true) (h:BL K P k R):BL K P a (k :: R):=by
 have:=BL.some hO [k] (fun _=>R) (by simp) (fun x hx=>by rw [List.mem_singleton.1 hx];exact ⟨hk,hs,h⟩) (.inr (.inl ⟨ho,k,rfl⟩))
 simpa using this
theorem BL.same {a b:Int} {R S:List Int} (h:BL K P a R) (h' : BL K P b S) (hsub:∀ x ∈ R,x ∈ S) (hab:Un P a b):∀ (d:Nat) (x:Int),x - a ≤ d → x ∈ S → Un P x a → x ≠ a → x ∈ R:=by
 have hT:=hO.tree
 have hn:=hO.1
 have haS:∀ x,x ∈ S → Un P x a → a = b ∨ a ∈ S:=by
  intro x hx hu
  have:∀ (n:Nat) (x:Int),x ≤ n → x ∈ S → Un P x a → a = b ∨ a ∈ S:=by
   intro n
   induction n with
   | zero =>
    intro x hx0 hx hu
    by_cases e:x = a
    ·exact .inr (e ▸ hx)
    ·obtain ⟨x0,x1,x2,x3,x4⟩:=h'.el x hx
     obtain ⟨_,_,u⟩:=hu.cases' e
     have hp:=hT.rdP x0 (by omega)
     have hle:=u.le hT
     have hle':=hab.le hT
     rcases h'.par hx with e'|e'
     ·have:rd P x = a ∨ rd P x = b:=.inr e'
      left;omega
     ·have:=(h'.el _ e').1;omega
   | succ n ih =>
    intro x hx0 hx hu
    by_cases e:x = a
    ·exact .inr (e ▸ hx)
    ·obtain ⟨x0,x1,x2,x3,x4⟩:=h'.el x hx
     obtain ⟨_,_,u⟩:=hu.cases' e
     have hp:=hT.rdP x0 (by omega)
     rcases h'.par hx with e'|e'
     ·rw [e'] at u
      have:=u.le hT
      have:=hab.le hT
      left;omega
     ·exact ih (rd P x) (by omega) e' u
  exact this x.toNat x (by have:=(h'.el x hx).1;omega) hx hu
 have hh:∀ y,(y = a ∨ y ∈ R) → (∃ x ∈ S,Un P x a) → hold K P S y:=by
  rintro y (rfl|hy) ⟨x,hx,hu⟩
  ·rcases haS x hx hu with e|e
   ·rw [e];exact h'.own
   ·exact h'.hel _ e
  ·exact h'.hel y (hsub y hy)
 intro d
 induction d with
 | zero =>
  intro x hd hx hu hne
  have:=hu.lt hT hne;omega
 | succ d ih =>
  intro x hd hx hu hne
  obtain ⟨x0,x1,u⟩:=hu.cases' hne
  have hp:=hT.rdP x0 x1
  have hk:x ∈ kids P (rd P x):=kids_of_rd x0 x1 rfl
  have hpar:rd P x = a ∨ rd P x ∈ R:=by
   by_cases e:rd P x = a
   ·exact .inl e
   ·right
    have hb:rd P x ∈ S:=by
     rcases h'.par hx with e'|e'
     ·have:=u.le hT
      have:=hab.le hT
      omega
     ·exact e'
    exact ih (rd P x) (by omega) hb u e
  have hR:hold K P R (rd P x):=by
   rcases hpar with e|e
   ·rw [e];exact h.own
   ·exact h.hel _ e
  have hS' : hold K P S (rd P x):=hh _ hpar ⟨x,hx,hu⟩
  unfold hold at hR hS'
  by_cases o:one K (rd P x) = true
  ·rw [if_pos o] at hR hS'
   rcases hR with e|⟨k,hk1,hk2,hk3⟩
   ·rw [e] at hk;cases hk
   ·rcases hS' with e|⟨k',hk1',hk2',hk3'⟩
    ·rw [e] at hk;cases hk
    ·rw [hk3' x hk hx,← hk3' k hk1 (hsub k hk2)];exact hk2
  ·rw [if_neg o] at hR
   exact hR x hk
end
end Go.Proofs.Ytnomeokicfpidaa.M
namespace Go.Proofs.Ytnomeokicfpidaa.M
open Go.RowKit Go.Proofs.YtnomeokicfpidaaW.PrintWords Go.Proofs.YtnomeokicfpidaaW.PrintLast Go.Proofs.YtnomeokicfpidaaW.PrintMore Go.Proofs.Ytnomeokicfpidaa.EW
set_option linter.unusedVariables false
theorem flatMap_same {α β:Type} {f g:α → List β}:∀ {L:List α},(∀ x ∈ L,f x = g x) → L.flatMap f = L.flatMap g
 | [],_=>rfl
 | x :: L,h=>by rw [List.flatMap_cons,List.flatMap_cons,h x (List.mem_cons_self ..),flatMap_same (fun y hy=>h y (List.mem_cons_of_mem _ hy))]
theorem flatMap_if {α β:Type} {p:α → Bool} {f:α → List β}:∀ {L:List α},L.flatMap (fun k=>if p k = true then f k else []) = (L.filter p).flatMap f
 | []=>rfl
 | x :: L=>by
  rw [List.flatMap_cons,flatMap_if,List.filter_cons]
  by_cases h:p x = true
  ·rw [if_pos h,if_pos h,List.flatMap_cons]
  ·rw [if_neg h,if_neg h,List.nil_append]
theorem flatMap_nil' {α β:Type} {f:α → List β}:∀ {L:List α},(∀ x ∈ L,f x = []) → L.flatMap f = []
 | [],_=>rfl
 | x :: L,h=>by rw [List.flatMap_cons,h x (List.mem_cons_self ..),flatMap_nil' (fun y hy=>h y (List.mem_cons_of_mem _ hy))];rfl
section
variable {K P:List Int} (hO:Ok K P)
include hO
omit hO in
theorem one_of {a:Int} (h0:0 ≤ a):one K a = true ↔ rd K a = 1:=by
 unfold one
 rw [show (a == -1) = false from beq_eq_false_iff_ne.mpr (by omega),Bool.false_or,beq_iff_eq]
theorem solid_of {a:Int} (h0:0 ≤ a) (h1:a < K.length):solidB (rd K a) = true ↔ rd K a < 3:=by
 have:=rd_range hO h0 h1
 rw [solidB_iff];omega
theorem hist_par {z:Int} (h0:0 ≤ z) (h1:z < K.length) (h:¬ solidB (rd K z) = true):0 ≤ rd P z ∧ rd P z < z ∧ rd K (rd P z) = 1 ∧ kids P (rd P z) ≠ []:=by
 have hp:=hO.tree.rdP h0 (by have:=hO.1;omega)
 have hk:z ∈ kids P (rd P z):=kids_of_rd h0 (by have:=hO.1;omega) rfl
 obtain ⟨_,_,_,_,a1,a2⟩:=hO.kid hk
 have:rd P z ≠ -1:=fun e=>h (a1 e)
 obtain ⟨b1,b2⟩:=a2 this
 exact ⟨by omega,hp.2,b2.resolve_left h,fun e=>by rw [e] at hk;cases hk⟩
theorem inS_BL:∀ (f:Nat) (a:Int),0 ≤ a → a < K.length → (K.length:Int) - a ≤ f → solidB (rd K a) = true → ∃ R,inS K P f a = a :: R ∧ BL K P a R:=by
 intro f
 induction f with
 | zero=>intro a h0 h1 h2;omega
 | succ f ih =>
  intro a h0 h1 h2 hs
  rw [inS]
  have sub:∀ k ∈ kids P a,solidB (rd K k) = true → ∃ R,inS K P f k = k :: R ∧ BL K P k R:=fun k hk hk'=>by
   obtain ⟨k0,k1,k2,_⟩:=hO.kid hk
   exact ih k k0 k1 (by omega) hk'
  by_cases h2:rd K a = 2
  ·rw [if_pos h2]
   have sol:∀ k ∈ kids P a,solidB (rd K k) = true:=fun k hk=>by
    obtain ⟨_,_,_,_,_,x⟩:=hO.kid hk
    exact ((x (by omega)).2).resolve_right (by omega)
   refine ⟨_,rfl,?_⟩
   have e:(kids P a).flatMap (inS K P f) = (kids P a).flatMap (fun k=>k :: (inS K P f k).tail):=flatMap_same (fun k hk=>by
    obtain ⟨R,e,_⟩:=sub k hk (sol k hk)
    rw [e];rfl)
   rw [e]
   refine BL.some hO _ _ (kids_nodup P a) (fun k hk=>⟨hk,sol k hk,?_⟩) (.inr (.inr ⟨?_,fun m hm=>hm⟩))
   ·obtain ⟨R,e,b⟩:=sub k hk (sol k hk)
    rw [e];exact b
   ·rw [Bool.eq_false_iff];intro h;rw [one_of h0] at h;omega
  ·rw [if_neg h2]
   have h1:rd K a = 1:=by have:=solidB_iff.1 hs;omega
   rcases initial_cases K P a with e|⟨e,e'⟩
   ·rw [e,if_neg (by omega)]
    refine ⟨[],rfl,BL.leaf ?_⟩
    exact Classical.byContradiction fun h=>by have:=hO.2.2.2.1 a h;omega
   ·obtain ⟨R,e1,b⟩:=sub _ e e'
    rw [if_pos (hO.kid e).1,e1]
    exact ⟨_,rfl,BL.single hO e e' ((one_of h0).2 h1) b⟩
def PastOk (K P Q:List Int):Prop:=∀ i:Int,0 ≤ i → i < K.length → belowL K P (wasS Q i) i = [] ∨ BL K P i (belowL K P (wasS Q i) i)
theorem back_BL {up:Int} (h0:0 ≤ up) (h1:up < K.length) (hp:rd K up = 1) (hk:kids P up ≠ []) {l:List Int} (hl:l = [] ∨ BL K P up l) (deep:Bool):BL K P up (backR K P (inS K P K.length) l up deep):=by
 have ho:=(one_of (K:=K) h0).2 hp
 have step:∀ k,k ∈ kids P up → solidB (rd K k) = true → BL K P up (inS K P K.length k):=fun k hk hs=>by
  obtain ⟨k0,k1,k2,_⟩:=hO.kid hk
  obtain ⟨R,e,b⟩:=inS_BL hO K.length k k0 k1 (by omega) hs
  rw [e];exact BL.single hO hk hs ho b
 unfold backR
 by_cases c:deep = true ∧ l ≠ []
 ·rw [if_pos c];exact hl.resolve_left c.2
 ·rw [if_neg c]
  cases hf:l.find? (fun k=>decide (rd P k = up) && decide (rd K k ≤ 2)) with
  | some k =>
   have hp:=List.find?_some hf
   have hm:=List.mem_of_find?_eq_some hf
   rw [Bool.and_eq_true,decide_eq_true_eq,decide_eq_true_eq] at hp
   have hb:=hl.resolve_left (fun e=>by rw [e] at hm;cases hm)
   obtain ⟨k0,k1,k2,_⟩:=hb.el k hm
   exact step k (kids_of_rd k0 (by have:=hO.1;omega) hp.1) k2
  | none =>
   have h0':=hO.2.2.2.1 up hk
   show BL K P up (if 0 ≤ initial K P up then inS K P K.length (initial K P up) else [])
   rw [if_pos h0']
   rcases initial_cases K P up with e|⟨e,e'⟩
   ·omega
   ·exact step _ e e'
omit hO in
theorem inA_solid {Q:List Int} {a:Int} (h0:0 ≤ a) (h1:a < K.length) (hs:solidB (rd K a) = true):inA K P Q a = inS K P K.length a:=by
 have:=solidB_iff.1 hs
 unfold inA
 rw [if_neg (by omega),if_neg (by omega)]
theorem inA_hist {Q:List Int} (hQ:PastOk K P Q) {a:Int} (h0:0 ≤ a) (h1:a < K.length) (hs:¬ solidB (rd K a) = true):BL K P (rd P a) (inA K P Q a):=by
 obtain ⟨p0,p1,p2,p3⟩:=hist_par hO h0 h1 hs
 have:=rd_range hO h0 h1
 have hs':=mt (solid_of hO h0 h1).2 hs
 unfold inA
 by_cases c:rd K a = 3
 ·rw [if_pos c];exact back_BL hO p0 (by omega) p2 p3 (hQ _ p0 (by omega)) false
 ·rw [if_neg c,if_pos (by omega)];exact back_BL hO p0 (by omega) p2 p3 (hQ _ p0 (by omega)) true
theorem way_kid {z a:Int} (hz0:0 ≤ z) (hz1:z < K.length) (hu:Un P z a) (hne:z ≠ a):∃ k,(kids P a).filter (fun k=>unB P z k) = [k] ∧ k ∈ kids P a ∧ Un P z k:=by
 have hT:=hO.tree
 have hn:=hO.1
 obtain ⟨j,h1,h2,h3⟩:=hu.kid hne
 have hj:(j:Int) ∈ kids P a:=mem_kids.2 ⟨j,rfl,h1,h2⟩
 refine ⟨j,?_,hj,h3⟩
 have hall:∀ x ∈ (kids P a).filter (fun k=>unB P z k),x = (j:Int):=fun x hx=>by
  obtain ⟨a1,a2⟩:=List.mem_filter.1 hx
  exact sib_eq hO a1 hj ((unB_iff hT (by omega) (by omega)).1 a2) h3
 have hmem:(j:Int) ∈ (kids P a).filter (fun k=>unB P z k):=List.mem_filter.2 ⟨hj,(unB_iff hT (by omega) (by omega)).2 h3⟩
 have hnd:((kids P a).filter (fun k=>unB P z k)).Nodup:=List.Pairwise.filter _ (kids_nodup P a)
 match h:(kids P a).filter (fun k=>unB P z k) with
 | []=>rw [h] at hmem;cases hmem
 | [x]=>rw [h] at hall;rw [hall x (List.mem_singleton.2 rfl)]
 | x :: y :: L =>
  rw [h] at hall hnd
  have e1:=hall x (List.mem_cons_self ..)
  have e2:=hall y (List.mem_cons_of_mem _ (List.mem_cons_self ..))
  exact absurd (e1.trans e2.symm) (by have:=(List.nodup_cons.1 hnd).1;intro e;exact this (e ▸ List.mem_cons_self ..))
theorem path_BL {Q:List Int} (hQ:PastOk K P Q) {z:Int} (hz0:0 ≤ z) (hz1:z < K.length):∀ (f:Nat) (a:Int),0 ≤ a → a < K.length → (K.length:Int) - a ≤ f → Un P z a →
  (∀ x ∈ inA K P Q z,x ∈ pathR K P Q z f a) ∧ ((a = z ∧ ¬ solidB (rd K z) = true ∧ pathR K P Q z f a = inA K P Q z) ∨ (solidB (rd K a) = true ∧ ∃ R,pathR K P Q z f a = a :: R ∧ BL K P a R)):=by
 have hT:=hO.tree
 have hn:=hO.1
 intro f
 induction f with
 | zero=>intro a h0 h1 h2;omega
 | succ f ih =>
  intro a h0 h1 h2 hu
  rw [pathR]
  by_cases e:a = z
  ·subst e
   rw [if_pos rfl]
   refine ⟨fun x hx=>hx,?_⟩
   by_cases hs:solidB (rd K a) = true
   ·right
    rw [inA_solid h0 h1 hs]
    exact ⟨hs,inS_BL hO K.length a h0 h1 (by omega) hs⟩
   ·exact .inl ⟨rfl,hs,rfl⟩
  ·rw [if_neg e]
   obtain ⟨k,hf,hk,hzk⟩:=way_kid hO hz0 hz1 hu (fun h=>e h.symm)
   obtain ⟨k0,k1,k2,_,_,kc⟩:=hO.kid hk
   obtain ⟨hsa,hsk⟩:=kc (by omega)
   obtain ⟨ih1,ih2⟩:=ih k k0 k1 (by omega) hzk
   rw [flatMap_if (p:=fun k=>unB P z k),hf]
   refine ⟨fun x hx=>?_,.inr ⟨hsa,_,rfl,?_⟩⟩
   ·refine List.mem_cons_of_mem _ (List.mem_append_left _ ?_)
    rw [List.flatMap_cons]
    exact List.mem_append_left _ (ih1 x hx)
   ·rcases solidB_iff.1 hsa with h1'|h2'
    ·rw [flatMap_nil' (f:=fun k=>if rd K a = 2 ∧ unB P z k = false then inA K P Q k else []) (fun x _=>if_neg (fun h=>by omega)),List.append_nil,List.flatMap_cons,List.flatMap_nil,List.append_nil]
     rcases ih2 with ⟨ez,hh,e2⟩|⟨hs,R,e2,b⟩
     ·rw [e2]
      have:=inA_hist hO hQ hz0 hz1 hh
      rw [← ez,(mem_kids_rd hk).2.2,ez] at this
      exact this
     ·rw [e2]
      exact BL.single hO hk hs ((one_of h0).2 h1') b
    ·have sol:∀ k ∈ kids P a,solidB (rd K k) = true:=fun k hk=>by
      obtain ⟨_,_,_,_,_,x⟩:=hO.kid hk
      exact ((x (by omega)).2).resolve_right (by omega)
     obtain ⟨hs,R,e2,b⟩:solidB (rd K k) = true ∧ ∃ R,pathR K P Q z f k = k :: R ∧ BL K P k R:=by
      rcases ih2 with ⟨ez,hh,_⟩|h
      ·exact absurd (ez ▸ sol k hk) hh
      ·exact h
     have eB:(kids P a).flatMap (fun k=>if rd K a = 2 ∧ unB P z k = false then inA K P Q k else []) = ((kids P a).filter (fun k=>!unB P z k)).flatMap (fun k=>k :: (inA K P Q k).tail):=by
      rw [← flatMap_if]
      refine flatMap_same (fun x hx=>?_)
      by_cases u:unB P z x = true
      ·rw [if_neg (by rw [u];simp),if_neg (by rw [u];simp)]
      ·rw [if_pos ⟨h2',eq_false_of_ne_true u⟩,if_pos (by simp [u])]
       obtain ⟨x0,x1,_⟩:=hO.kid hx
       rw [inA_solid x0 x1 (sol x hx)]
       obtain ⟨R,e,_⟩:=inS_BL hO K.length x x0 x1 (by omega) (sol x hx)
       rw [e];rfl
     have eA:([k].flatMap (pathR K P Q z f)) = [k].flatMap (fun k'=>k' :: (fun k'=>if k' = k then R else (inA K P Q k').tail) k'):=by
      rw [List.flatMap_cons,List.flatMap_cons,List.flatMap_nil,List.flatMap_nil,e2];simp
     have hnk:k ∉ (kids P a).filter (fun k=>!unB P z k):=fun h=>by
      have:=(List.mem_filter.1 h).2
      rw [(unB_iff hT (by omega) (by omega)).2 hzk] at this
      exact absurd this (by simp)
     have eB' : ((kids P a).filter (fun k=>!unB P z k)).flatMap (fun k=>k :: (inA K P Q k).tail) = ((kids P a).filter (fun k=>!unB P z k)).flatMap (fun k'=>k' :: (fun k'=>if k' = k then R else (inA K P Q k').tail) k'):=flatMap_same (fun x hx=>by
      have hxk:x ≠ k:=fun h=>hnk (h ▸ hx)
      simp only [if_neg hxk])
     rw [eB,eB',eA,← List.flatMap_append]
     refine BL.some hO _ _ ?_ (fun x hx=>?_) (.inr (.inr ⟨?_,fun m hm=>?_⟩))
     ·rw [List.singleton_append,List.nodup_cons]
      exact ⟨hnk,List.Pairwise.filter _ (kids_nodup P a)⟩
     ·rw [List.singleton_append,List.mem_cons] at hx
      rcases hx with rfl|hx
      ·refine ⟨hk,hs,?_⟩
       simp only [if_true];exact b
      ·have hx':=(List.mem_filter.1 hx).1
       have hxk:x ≠ k:=fun h=>hnk (h ▸ hx)
       refine ⟨hx',sol x hx',?_⟩
       simp only [if_neg hxk]
       obtain ⟨x0,x1,_⟩:=hO.kid hx'
       rw [inA_solid x0 x1 (sol x hx')]
       obtain ⟨R,e,b⟩:=inS_BL hO K.length x x0 x1 (by omega) (sol x hx')
       rw [e];exact b
     ·rw [Bool.eq_false_iff];intro h;rw [one_of h0] at h;omega
     ·rw [List.singleton_append,List.mem_cons]
      by_cases u:unB P z m = true
      ·left
       have:m ∈ (kids P a).filter (fun k=>unB P z k):=List.mem_filter.2 ⟨hm,u⟩
       rw [hf] at this
       exact List.mem_singleton.1 this
      ·right
       exact List.mem_filter.2 ⟨hm,by simp [u]⟩
theorem enter_BL {Q:List Int} (hQ:PastOk K P Q) {d z:Int} (hz0:0 ≤ z) (hz1:z < K.length) (hd:one K d = true) (hu:Un P z d) (hne:z ≠ d) :
  BL K P d (enterL K P Q d z) ∧ (∀ x ∈ inA K P Q z,x ∈ enterL K P Q d z):=by
 obtain ⟨k,hf,hk,hzk⟩:=way_kid hO hz0 hz1 hu hne
 obtain ⟨k0,k1,k2,_⟩:=hO.kid hk
 obtain ⟨h1,h2⟩:=path_BL hO hQ hz0 hz1 K.length k k0 k1 (by omega) hzk
 unfold enterL
 rw [flatMap_if (p:=fun k=>unB P z k),hf,List.flatMap_cons,List.flatMap_nil,List.append_nil]
 refine ⟨?_,h1⟩
 rcases h2 with ⟨e,hh,e2⟩|⟨hs,R,e2,b⟩
 ·rw [e2]
  have:=inA_hist hO hQ hz0 hz1 hh
  rw [← e,(mem_kids_rd hk).2.2,e] at this
  exact this
 ·rw [e2];exact BL.single hO hk hs hd b
theorem start_BL:BL K P (-1) (startL K P) ∧ ∃ R,startL K P = initial K P (-1) :: R:=by
 have hk:kids P (-1) ≠ []:=fun e=>by
  have hn:=hO.1
  have h1:=hO.2.1
  obtain ⟨_,_,b1,b2,_⟩:=okS_iff.1 (hO.2.2.1 0 (by omega))
  have:(0:Int) ∈ kids P (-1):=mem_kids.2 ⟨0,rfl,by omega,by omega⟩
  rw [e] at this;cases this
 have h0:=hO.2.2.2.1 (-1) hk
 unfold startL
 rw [if_pos h0]
 rcases initial_cases K P (-1) with e|⟨e,e'⟩
 ·omega
 ·obtain ⟨k0,k1,_⟩:=hO.kid e
  obtain ⟨R,e1,b⟩:=inS_BL hO K.length _ k0 k1 (by omega) e'
  rw [e1]
  exact ⟨BL.single hO e e' rfl b,R,rfl⟩
end
end Go.Proofs.Ytnomeokicfpidaa.M
namespace Go.Proofs.Ytnomeokicfpidaa.M
open Go.RowKit Go.Proofs.YtnomeokicfpidaaW.PrintWords Go.Proofs.YtnomeokicfpidaaW.PrintLast Go.Proofs.YtnomeokicfpidaaW.PrintMore
set_option linter.unusedVariables false
theorem proper_LP {K P:List Int} (hI:Inv K P) (s:Nat):properB K P s = true ↔ LP K P (-1) s:=by
 have hT:=hI.tree
 have hn:=hI.1
 unfold properB
 rw [Bool.and_eq_true,decide_eq_true_eq,Bool.and_eq_true,List.all_eq_true]
 constructor
 ·rintro ⟨h1,h2,h3⟩
  have h3' : ∀ j:Nat,s.testBit j = true → j < K.length ∧ atB K P s j = true:=by
   intro j hj
   have:j < K.length:=by
    rcases Nat.lt_or_ge j K.length with h|h
    ·exact h
    ·have:=Nat.testBit_lt_two_pow (Nat.lt_of_lt_of_le h1 (Nat.pow_le_pow_right (by decide:0 < 2) h))
     rw [hj] at this;cases this
   exact ⟨this,h3 j (List.mem_range'_1.2 ⟨by omega,by omega⟩)⟩
  have at' : ∀ j:Nat,s.testBit j = true → solidB (K.getD j 0) = true ∧ (P.getD j 0 = -1 ∨ s.testBit (P.getD j 0).toNat = true) ∧ heldB K P s (j:Int) (K.getD j 0 == 1) = true:=by
   intro j hj
   have:=(h3' j hj).2
   unfold atB at this
   rw [hj,Bool.not_true,Bool.false_or,Bool.and_eq_true,Bool.and_eq_true,Bool.or_eq_true,beq_iff_eq] at this
   exact this
  refine ⟨fun j hj=>?_,?_,fun j hj=>?_⟩
  ·have hjn:=(h3' j hj).1
   obtain ⟨a1,a2,a3⟩:=at' j hj
   have ht:=hT j (by omega)
   refine ⟨hjn,by omega,Un.top hT (j + 1) (j:Int) (by omega) (by omega) (by omega),a1,?_⟩
   rcases a2 with a2|a2
   ·exact .inl a2
   ·by_cases e:P.getD j 0 = -1
    ·exact .inl e
    ·exact .inr ⟨by omega,a2⟩
  ·rw [show one K (-1) = true from rfl];exact h2
  ·rw [one_nat];exact (at' j hj).2.2
 ·intro h
  refine ⟨Nat.lt_pow_two_of_testBit s (fun i hi=>eq_false_of_ne_true fun hb=>by have:=(h.mem i hb).1;omega),?_,fun j hj=>?_⟩
  ·have:=h.own
   rwa [show one K (-1) = true from rfl] at this
  ·unfold atB
   by_cases hb:s.testBit j = true
   ·obtain ⟨b1,b2,b3,b4,b5⟩:=h.mem j hb
    have b6:=h.all j hb
    rw [one_nat] at b6
    rw [hb,b4,b6]
    rcases b5 with b5|b5
    ·rw [b5];rfl
    ·rw [b5.2];simp
   ·rw [eq_false_of_ne_true hb];rfl
theorem tb_or {k s j:Nat}:(2 ^ k ||| s).testBit j = true ↔ k = j ∨ s.testBit j = true:=by
 rw [Nat.testBit_or,Nat.testBit_two_pow,Bool.or_eq_true,decide_eq_true_eq]
open Classical in
open Classical in
section
variable {K P:List Int} (hI:Inv K P)
include hI
end
end Go.Proofs.Ytnomeokicfpidaa.M
namespace Go.Proofs.Ytnomeokicfpidaa.M
open Go.RowKit Go.Proofs.YtnomeokicfpidaaW.PrintWords Go.Proofs.YtnomeokicfpidaaW.PrintLast Go.Proofs.YtnomeokicfpidaaW.PrintMore Go.Proofs.Ytnomeokicfpidaa.Q
set_option linter.unusedVariables false
set_option linter.unusedSectionVars false
theorem pigeon {L:List Int} (hd:L.Nodup) {n:Nat} (h:∀ x ∈ L,-1 ≤ x ∧ x < n):L.length ≤ n + 1:=by
 have hN:((List.range' 0 (n + 1)).map (fun j:Nat=>(j:Int) - 1)).Nodup:=by
  unfold List.Nodup
  rw [List.pairwise_map]
  refine List.Pairwise.imp ?_ (List.nodup_range' (s:=0) (n:=n + 1) 1)
  intro x y h e
  exact h (by omega)
 have hp:L.Perm (((List.range' 0 (n + 1)).map (fun j:Nat=>(j:Int) - 1)).filter (fun x=>decide (x ∈ L))):=by
  refine (List.perm_ext_iff_of_nodup hd (List.Pairwise.filter _ hN)).2 fun x=>?_
  rw [List.mem_filter,decide_eq_true_eq,List.mem_map]
  constructor
  ·intro hx
   have:=h x hx
   exact ⟨⟨(x + 1).toNat,List.mem_range'_1.2 ⟨by omega,by omega⟩,by omega⟩,hx⟩
  ·exact fun h=>h.2
 rw [hp.length_eq]
 refine Nat.le_trans (List.length_filter_le _ _) ?_
 rw [List.length_map,List.length_range'];exact Nat.le_refl _
def bs:List Int → Nat → Nat
 | [],s=>s
 | x :: L,s=>bs L (s ||| 2 ^ x.toNat)
theorem tb_bs {j:Nat}:∀ {L:List Int} {s:Nat},(∀ x ∈ L,0 ≤ x) → ((bs L s).testBit j = true ↔ s.testBit j = true ∨ (j:Int) ∈ L)
 | [],s,_=>by simp [bs]
 | x :: L,s,h=>by
  have h0:=h x (List.mem_cons_self ..)
  rw [bs,tb_bs (fun y hy=>h y (List.mem_cons_of_mem _ hy)),Nat.or_comm,tb_or,List.mem_cons]
  constructor
  ·rintro ((h|h)|h)
   ·exact .inr (.inl (by omega))
   ·exact .inl h
   ·exact .inr (.inr h)
  ·rintro (h|h|h)
   ·exact .inl (.inr h)
   ·exact .inl (.inl (by omega))
   ·exact .inr h
structure CI (K P D T:List Int) (s:Nat):Prop where
 nd:(D ++ T).Nodup
 el:∀ x ∈ D ++ T,x = -1 ∨ (0 ≤ x ∧ x < K.length ∧ solidB (rd K x) = true ∧ rd P x ∈ D)
 bit:∀ j:Nat,s.testBit j = true ↔ (j:Int) ∈ D ++ T
 hel:∀ x ∈ D,heldB K P s x (one K x) = true
 top:(-1:Int) ∈ D ++ T
section
variable {K P:List Int} (hI:Inv K P)
include hI
theorem CI.step {D T L:List Int} {a:Int} {s s' : Nat} (h:CI K P D (a :: T) s) (hL:∀ x ∈ L,x ∈ sk K P a) (hd:L.Nodup)
  (hc:sk K P a = [] ∨ (one K a = true ∧ ∃ k,L = [k]) ∨ (one K a = false ∧ L = sk K P a)) (hs:∀ j:Nat,s'.testBit j = true ↔ s.testBit j = true ∨ (j:Int) ∈ L) :
  CI K P (D ++ [a]) (T ++ L) s':=by
 have hn:=hI.1
 have hk:∀ x ∈ L,∃ j:Nat,x = j ∧ j < P.length ∧ P.getD j 0 = a ∧ solidB (rd K x) = true:=by
  intro x hx
  obtain ⟨h1,h2⟩:=List.mem_filter.1 (hL x hx)
  obtain ⟨j,e,b,c⟩:=mem_kids.1 h1
  exact ⟨j,e,b,c,h2⟩
 have haD:a ∉ D:=fun e=>(List.nodup_append.1 h.nd).2.2 a e a (List.mem_cons_self ..) rfl
 have hkn:∀ x:Int,0 ≤ x → rd P x = a → x ∉ D ++ a :: T:=by
  intro x hx hp hm
  rcases h.el x hm with e|⟨_,_,_,e⟩
  ·omega
  ·exact haD (hp ▸ e)
 have hap:∀ x ∈ L,0 ≤ x ∧ rd P x = a:=by
  intro x hx
  obtain ⟨j,e,b,c,_⟩:=hk x hx
  rw [e,rd_nat];exact ⟨by omega,c⟩
 have e1:D ++ [a] ++ (T ++ L) = (D ++ a :: T) ++ L:=by simp
 refine ⟨?_,?_,?_,?_,?_⟩
 ·rw [e1]
  refine List.nodup_append.2 ⟨h.nd,hd,fun x hx y hy e=>?_⟩
  subst e
  exact hkn x (hap x hy).1 (hap x hy).2 hx
 ·rw [e1]
  intro x hx
  rcases List.mem_append.1 hx with hx|hx
  ·rcases h.el x hx with e|⟨a1,a2,a3,a4⟩
   ·exact .inl e
   ·exact .inr ⟨a1,a2,a3,List.mem_append_left _ a4⟩
  ·obtain ⟨j,e,b,c,d⟩:=hk x hx
   obtain ⟨f,g⟩:=hap x hx
   exact .inr ⟨f,by omega,d,by rw [g];exact List.mem_append_right _ (List.mem_cons_self ..)⟩
 ·rw [e1]
  intro j
  rw [hs,h.bit,List.mem_append (s:=D ++ a :: T)]
 ·intro x hx
  have hkx:∀ y ∈ kids P x,0 ≤ y ∧ rd P y = x:=by
   intro y hy
   obtain ⟨j,e,b,c⟩:=mem_kids.1 hy
   rw [e,rd_nat];exact ⟨by omega,c⟩
  rcases List.mem_append.1 hx with hx|hx
  ·have:=h.hel x hx
   rw [heldB_congr (s':=s)]
   ·exact this
   ·intro y hy
    obtain ⟨f,g⟩:=hkx y hy
    rw [Bool.eq_iff_iff,hs,show ((y.toNat:Nat):Int) = y by omega]
    constructor
    ·rintro (e|e)
     ·exact e
     ·have:=(hap y e).2
      rw [g] at this
      rw [this] at hx
      exact absurd hx haD
    ·exact .inl
  ·rw [List.mem_singleton] at hx
   subst hx
   have hb:∀ y ∈ kids P x,(s'.testBit y.toNat = true ↔ y ∈ L):=by
    intro y hy
    obtain ⟨f,g⟩:=hkx y hy
    rw [hs,h.bit,show ((y.toNat:Nat):Int) = y by omega]
    constructor
    ·rintro (e|e)
     ·exact absurd e (hkn y f g)
     ·exact e
    ·exact .inr
   rcases hc with hc|⟨h1,k,h2⟩|⟨h1,h2⟩
   ·have e:=sk_nil hI hc
    unfold heldB cnt
    rw [e];simp
   ·rw [h1]
    refine held_one.2 (.inr ⟨k,?_,?_,?_⟩)
    ·exact (List.mem_filter.1 (hL k (by rw [h2];exact List.mem_cons_self ..))).1
    ·exact (hb k (List.mem_filter.1 (hL k (by rw [h2];exact List.mem_cons_self ..))).1).2 (by rw [h2];exact List.mem_cons_self ..)
    ·intro m hm hbm
     have:=(hb m hm).1 hbm
     rw [h2,List.mem_singleton] at this
     exact this
   ·rw [h1]
    refine held_all.2 fun m hm=>(hb m hm).2 ?_
    rw [h2]
    refine List.mem_filter.2 ⟨hm,?_⟩
    by_cases e:sk K P x = []
    ·rw [sk_nil hI e] at hm;cases hm
    ·obtain ⟨o1,o2⟩:=(one_false hI e).1 h1
     rcases (kid_par hI hm (by omega)).2.2.2 with z|z
     ·exact z
     ·omega
 ·rw [e1];exact List.mem_append_left _ h.top
theorem CI.len {D T:List Int} {s:Nat} (h:CI K P D T s):D.length + T.length ≤ K.length + 1:=by
 rw [← List.length_append]
 refine pigeon h.nd fun x hx=>?_
 rcases h.el x hx with e|⟨e,f,_⟩ <;> omega
theorem CI.done {D:List Int} {s:Nat} (h:CI K P D [] s):LP K P (-1) s:=by
 have hn:=hI.1
 have hb:=h.bit
 have he:=h.el
 have ht:=h.top
 rw [List.append_nil] at hb he ht
 refine ⟨fun j hj=>?_,h.hel (-1) ht,fun j hj=>h.hel _ ((hb j).1 hj)⟩
 rcases he _ ((hb j).1 hj) with e|⟨_,e1,e2,e3⟩
 ·omega
 ·rw [rd_nat] at e2 e3
  refine ⟨by omega,by omega,Un.top hI.tree (j + 1) (j:Int) (by omega) (by omega) (by omega),e2,?_⟩
  rcases he _ e3 with f|⟨f1,f2,_⟩
  ·exact .inl f
  ·exact .inr ⟨f1,(hb _).2 (by rw [show (((P.getD j 0).toNat:Nat):Int) = P.getD j 0 by omega];exact e3)⟩
theorem CI.lt {D T:List Int} {s:Nat} (h:CI K P D T s):s < 2 ^ K.length:=by
 refine Nat.lt_pow_two_of_testBit s (fun i hi=>eq_false_of_ne_true fun hb=>?_)
 rcases h.el _ ((h.bit i).1 hb) with e|⟨_,e,_⟩ <;> omega
end
end Go.Proofs.Ytnomeokicfpidaa.M
namespace Go.Proofs.Ytnomeokicfpidaa.M
open Go.RowKit Go.Proofs.YtnomeokicfpidaaW.PrintWords Go.Proofs.YtnomeokicfpidaaW.PrintLast Go.Proofs.YtnomeokicfpidaaW.PrintMore Go.Proofs.Ytnomeokicfpidaa.Q Go.Proofs.Ytnomeokicfpidaa.EW
set_option linter.unusedVariables false
theorem inB_nat (s i:Nat) (hs:s < 4294967296):inB (s:Int) (i:Int) = s.testBit i:=by
 unfold inB
 rw [bit1 s i hs]
 by_cases h:s.testBit i = true
 ·rw [if_pos h,h];rfl
 ·rw [if_neg h,eq_false_of_ne_true h];rfl
theorem hold_iff {K P:List Int} {s:Nat} {R:List Int} {x:Int} (h:∀ m ∈ kids P x,s.testBit m.toNat = true ↔ m ∈ R):heldB K P s x (one K x) = true ↔ hold K P R x:=by
 unfold hold
 cases ho:one K x with
 | true =>
  rw [if_pos rfl,held_one]
  constructor
  ·rintro (e|⟨k,hk,hb,hu⟩)
   ·exact .inl e
   ·exact .inr ⟨k,hk,(h k hk).1 hb,fun m hm hb'=>hu m hm ((h m hm).2 hb')⟩
  ·rintro (e|⟨k,hk,hb,hu⟩)
   ·exact .inl e
   ·exact .inr ⟨k,hk,(h k hk).2 hb,fun m hm hb'=>hu m hm ((h m hm).1 hb')⟩
 | false =>
  rw [if_neg (by simp),held_all]
  exact ⟨fun g m hm=>(h m hm).1 (g m hm),fun g m hm=>(h m hm).2 (g m hm)⟩
theorem below_sorted (K P:List Int) (s a:Int):(belowL K P s a).Pairwise (· < ·):=by
  unfold belowL belowFrom
  rw [List.pairwise_map]
  refine List.Pairwise.imp ?_ (List.Pairwise.filter _ (List.pairwise_lt_range' (s:=0) (n:=K.length) 1))
  intro x y h;omega
section
variable {K P:List Int} (hO:Ok K P)
include hO
theorem mem_belowN {s:Nat} (hs:s < 4294967296) {a x:Int}:x ∈ belowL K P (s:Int) a ↔ ∃ j:Nat,x = j ∧ j < K.length ∧ (j:Int) ≠ a ∧ s.testBit j = true ∧ Un P (j:Int) a:=by
 have hn:=hO.1
 rw [mem_below]
 constructor
 ·rintro ⟨j,rfl,h1,h2,h3,h4⟩
  exact ⟨j,rfl,h1,h2,by rw [← inB_nat s j hs];exact h3,(unB_iff hO.tree (by omega) (by omega)).1 h4⟩
 ·rintro ⟨j,rfl,h1,h2,h3,h4⟩
  exact ⟨j,rfl,h1,h2,by rw [inB_nat s j hs];exact h3,(unB_iff hO.tree (by omega) (by omega)).2 h4⟩
theorem LP.below {b:Int} {s:Nat} (h:LP K P b s) (hs:s < 4294967296) {a:Int} (ha:a = b ∨ (0 ≤ a ∧ s.testBit a.toNat = true)):BL K P a (belowL K P (s:Int) a):=by
 have hT:=hO.tree
 have hn:=hO.1
 have hkid:∀ x,Un P x a → ∀ m ∈ kids P x,(s.testBit m.toNat = true ↔ m ∈ belowL K P (s:Int) a):=by
  intro x hx m hm
  obtain ⟨m0,m1,m2⟩:=mem_kids_rd hm
  have hu:=(Un.kid1 hm).trans hx
  have:=hT.rdP m0 m1
  have:=hx.le hT
  rw [mem_belowN hO hs]
  constructor
  ·intro hb;exact ⟨m.toNat,by omega,by omega,by omega,hb,by rw [show ((m.toNat:Nat):Int) = m by omega];exact hu⟩
  ·rintro ⟨j,rfl,_,_,hb,_⟩;exact hb
 have par:∀ x ∈ belowL K P (s:Int) a,rd P x = a ∨ rd P x ∈ belowL K P (s:Int) a:=by
  intro x hx
  obtain ⟨j,rfl,h1,h2,h3,h4⟩:=(mem_belowN hO hs).1 hx
  obtain ⟨_,_,hu⟩:=h4.cases' h2
  by_cases e:rd P (j:Int) = a
  ·exact .inl e
  ·right
   obtain ⟨_,_,c3,_,c5⟩:=h.mem j h3
   rw [rd_nat] at hu e ⊢
   rcases c5 with c5|⟨c5,c6⟩
   ·exfalso
    rw [c5] at hu e
    rcases ha with ha|⟨ha0,ha1⟩
    ·exact e ha.symm
    ·obtain ⟨_,d2,d3,_⟩:=h.mem a.toNat ha1
     rw [show ((a.toNat:Nat):Int) = a by omega] at d2 d3
     have:=d3.lt hT d2
     have:=hu.le hT
     omega
   ·have:=hT j (by omega)
    refine (mem_belowN hO hs).2 ⟨(P.getD j 0).toNat,by omega,by omega,by omega,c6,by rw [show (((P.getD j 0).toNat:Nat):Int) = P.getD j 0 by omega];exact hu⟩
 refine ⟨?_,fun x hx=>?_,fun pre x post e=>?_,fun x hx=>?_,?_⟩
 ·exact List.Pairwise.imp (fun h=>by omega) (below_sorted K P (s:Int) a)
 ·obtain ⟨j,rfl,h1,h2,h3,h4⟩:=(mem_belowN hO hs).1 hx
  obtain ⟨_,_,_,c4,_⟩:=h.mem j h3
  exact ⟨by omega,by omega,by rw [rd_nat];exact c4,h4,h2⟩
 ·have hx:x ∈ belowL K P (s:Int) a:=by rw [e];simp
  rcases par x hx with p|p
  ·exact .inl p
  ·right
   obtain ⟨j,rfl,h1,_⟩:=(mem_belowN hO hs).1 hx
   have hlt:=hT j (by omega)
   rw [e] at p
   have hso:=below_sorted K P (s:Int) a
   rw [e] at hso
   rcases List.mem_append.1 p with p|p
   ·exact p
   ·rcases List.mem_cons.1 p with p|p
    ·rw [rd_nat] at p;omega
    ·have:=(List.pairwise_cons.1 (List.pairwise_append.1 hso).2.1).1 _ p
     rw [rd_nat] at this;omega
 ·obtain ⟨j,rfl,h1,h2,h3,h4⟩:=(mem_belowN hO hs).1 hx
  exact (hold_iff (hkid j h4)).1 (h.all j h3)
 ·refine (hold_iff (hkid a (.refl _))).1 ?_
  rcases ha with rfl|⟨ha0,ha1⟩
  ·exact h.own
  ·have:=h.all a.toNat ha1
   rwa [show ((a.toNat:Nat):Int) = a by omega] at this
theorem BL.LP {a:Int} {R:List Int} {s:Nat} (h:BL K P a R) (hs:∀ j:Nat,s.testBit j = true ↔ (j:Int) ∈ R):LP K P a s:=by
 have hn:=hO.1
 have hk:∀ x,∀ m ∈ kids P x,s.testBit m.toNat = true ↔ m ∈ R:=by
  intro x m hm
  obtain ⟨m0,_⟩:=mem_kids_rd hm
  rw [hs,show ((m.toNat:Nat):Int) = m by omega]
 refine ⟨fun j hj=>?_,(hold_iff (hk a)).2 h.own,fun j hj=>(hold_iff (hk _)).2 (h.hel _ ((hs j).1 hj))⟩
 obtain ⟨x0,x1,x2,x3,x4⟩:=h.el _ ((hs j).1 hj)
 refine ⟨by omega,x4,x3,by rw [← rd_nat];exact x2,?_⟩
 rcases h.par ((hs j).1 hj) with e|e
 ·left;rw [← rd_nat];exact e
 ·right
  rw [rd_nat] at e
  have:=(h.el _ e).1
  exact ⟨this,(hs _).2 (by rw [show (((P.getD j 0).toNat:Nat):Int) = P.getD j 0 by omega];exact e)⟩
end
theorem Inv.ok {K P:List Int} (h:Inv K P) (h24:K.length ≤ 24):Ok K P:=Ok.of_valid (h.valid h24)
theorem bs_lt {L:List Int} (hL:∀ x ∈ L,0 ≤ x ∧ x < 32):bs L 0 < 4294967296:=by
 refine Nat.lt_pow_two_of_testBit (n:=32) _ (fun i hi=>eq_false_of_ne_true fun hb=>?_)
 rcases (tb_bs (fun x hx=>(hL x hx).1)).1 hb with h|h
 ·simp at h
 ·have:=hL _ h;omega
theorem bits_l0 (L:List Int) (hl:L.length < 1000000) (hL:∀ x ∈ L,0 ≤ x ∧ x < 32):∀ (rest pre:List Int) (s:Nat),L = pre ++ rest → s < 4294967296 →
  Ev (fun k=>q13.l0 k (s:Int) L (L.length:Int) (pre.length:Int)) ((bs rest s:Nat):Int):=by
 intro rest
 induction rest with
 | nil =>
  intro pre s hp hs
  refine Ev.ret (fun k=>?_)
  have:L.length = pre.length:=by rw [hp,List.append_nil]
  simp only [q13.l0]
  rw [if_neg (by omega)];rfl
 | cons x rest ih =>
  intro pre s hp hs
  have hx:=hL x (by rw [hp];simp)
  have hlen:L.length = pre.length + (rest.length + 1):=by rw [hp];simp
  have hr:rd L (pre.length:Int) = x:=by
   rw [hp,rd_nat];simp [List.getD_eq_getElem?_getD]
  obtain ⟨j,rfl⟩:∃ j:Nat,x = (j:Int):=⟨x.toNat,by omega⟩
  have hb:s ||| 2 ^ j < 4294967296:=Nat.or_lt_two_pow (n:=32) hs (pow_lt32 (by omega))
  refine Ev.st (ih (pre ++ [(j:Int)]) (s ||| 2 ^ j) (by rw [hp];simp) hb) (fun k=>?_)
  simp only [q13.l0]
  rw [if_pos (by omega),if_pos (by omega),if_pos (by omega),hr,if_pos (by omega),if_pos (by omega),u64w j (by omega),if_pos (by omega),shl_one j (by omega),u32_or s (2 ^ j) hs (pow_lt32 (by omega)),w1 _ (by omega)]
  congr 1
  rw [List.length_append];rfl
theorem bits_f (L:List Int) (hl:L.length < 1000000) (hL:∀ x ∈ L,0 ≤ x ∧ x < 32):Ev (fun k=>q13.f k L) ((bs L 0:Nat):Int):=by
 unfold q13.f
 exact bits_l0 L hl hL L [] 0 rfl (by decide)
theorem wakes7_f:Ev (fun k=>q9.f k) true:=Ev.of (fun k=>q9.mono k) (k:=30) (by decide +kernel)
theorem Leave_l0 (L:List Int) (hl:L.length < 1000000):∀ (d i:Nat) (acc:List Int),i + d = L.length → acc.length ≤ i → Ev (fun k=>q25.l0 k acc L (L.length:Int) (i:Int)) (acc ++ (L.take d).reverse):=by
 intro d
 induction d with
 | zero =>
  intro i acc hi ha
  refine Ev.ret (fun k=>?_)
  simp only [q25.l0]
  rw [if_neg (by omega)];simp
 | succ d ih =>
  intro i acc hi ha
  have hw:wrap64 (wrap64 ((L.length:Int) - 1) - (i:Int)) = (d:Int):=by rw [w64 (x:=(L.length:Int) - 1) (by omega) (by omega),w64 (by omega) (by omega)];omega
  refine Ev.st (Ev.val (ih (i + 1) (acc ++ [rd L (d:Int)]) (by omega) (by simp;omega)) ?_) (fun k=>?_)
  ·rw [List.take_succ_eq_append_getElem (by omega),List.reverse_append,rd_nat,List.getD_eq_getElem?_getD,List.getElem?_eq_getElem (by omega)];simp
  ·simp only [q25.l0]
   rw [if_pos (by omega),hw,if_pos (by omega),if_pos (by omega),if_pos (by omega),w1 i (by omega)]
theorem Leave_f {K P:List Int} (hO:Ok K P) (s d:Int) (d0:-1 ≤ d) (d1:d < K.length):Ev (fun k=>q25.f k K P s d) (belowL K P s d).reverse:=by
 have h24:=hO.2.2.2.2
 have hb:=below_len K P s d
 unfold q25.f
 refine Ev.bd (below_f hO.1 hO.tree (by omega) s d d0 d1) ?_
 have:=Leave_l0 (belowL K P s d) (by omega) (belowL K P s d).length 0 [] (by omega) (by simp)
 simpa using this
def andN (a b:Nat):Nat:=a &&& (2 ^ 32 - (b + 1))
theorem u32_andNot (a b:Nat) (ha:a < 4294967296) (hb:b < 4294967296):Go.bits .andNot .u32 (a:Int) (b:Int) = ((andN a b:Nat):Int):=by
 have ha' : a % 2 ^ IntKind.u32.bits = a:=Nat.mod_eq_of_lt ha
 have hb' : b % 2 ^ IntKind.u32.bits = b:=Nat.mod_eq_of_lt hb
 simp only [Go.bits,BitVec.ofInt_natCast,BitVec.toNat_and,BitVec.toNat_not,BitVec.toNat_ofNat,ha',hb']
 have e:2 ^ IntKind.u32.bits - 1 - b = 2 ^ 32 - (b + 1):=by show 2 ^ 32 - 1 - b = _;omega
 rw [e]
 have:a &&& (2 ^ 32 - (b + 1)) < 2 ^ 32:=Nat.lt_of_le_of_lt Nat.and_le_left ha
 exact wraps_u32 _ (Int.natCast_nonneg _) (by exact_mod_cast this)
theorem andN_lt {a b:Nat} (ha:a < 4294967296):andN a b < 4294967296:=Nat.lt_of_le_of_lt Nat.and_le_left ha
theorem tb_andN {a b j:Nat} (ha:a < 4294967296) (hb:b < 4294967296):(andN a b).testBit j = true ↔ a.testBit j = true ∧ ¬ b.testBit j = true:=by
 unfold andN
 rw [Nat.testBit_and,Nat.testBit_two_pow_sub_succ (show b < 2 ^ 32 from hb)]
 simp only [Bool.and_eq_true,decide_eq_true_eq,Bool.not_eq_true']
 constructor
 ·rintro ⟨h,_,g⟩;exact ⟨h,by rw [g];simp⟩
 ·rintro ⟨h,g⟩
  refine ⟨h,?_,by simpa using g⟩
  rcases Nat.lt_or_ge j 32 with h'|h'
  ·exact h'
  ·have:=Nat.testBit_lt_two_pow (Nat.lt_of_lt_of_le (show a < 2 ^ 32 from ha) (Nat.pow_le_pow_right (by decide:0 < 2) h'))
   rw [h] at this;cases this
theorem nat_zero {a:Nat} (h:∀ j:Nat,¬ a.testBit j = true):a = 0:=Nat.eq_of_testBit_eq (fun j=>by rw [Nat.zero_testBit];exact eq_false_of_ne_true (h j))
def pc:Nat → Nat → Nat
 | 0,_=>0
 | f + 1,x=>x % 2 + pc f (x / 2)
theorem pc_zero:∀ f,pc f 0 = 0
 | 0=>rfl
 | f + 1=>by rw [pc];simp [pc_zero f]
theorem pc_clear:∀ (f x:Nat),0 < x → x < 2 ^ f → pc f (x &&& (x - 1)) + 1 = pc f x ∧ x &&& (x - 1) < x:=by
 intro f
 induction f with
 | zero=>intro x h0 h1;simp at h1;omega
 | succ f ih =>
  intro x h0 h1
  have hd:(x &&& (x - 1)) / 2 = x / 2 &&& (x - 1) / 2:=Nat.and_div_two
  have hm:(x &&& (x - 1)) % 2 = if x % 2 = 1 ∧ (x - 1) % 2 = 1 then 1 else 0:=by
   have h:=Nat.testBit_and x (x - 1) 0
   rw [Nat.testBit_zero,Nat.testBit_zero,Nat.testBit_zero,Bool.eq_iff_iff,Bool.and_eq_true,decide_eq_true_eq,decide_eq_true_eq,decide_eq_true_eq] at h
   by_cases c:x % 2 = 1 ∧ (x - 1) % 2 = 1
   ·rw [if_pos c];exact h.2 c
   ·rw [if_neg c]
    have:=mt h.1 c
    omega
  rw [pc,pc]
  by_cases hodd:x % 2 = 1
  ·have e1:(x - 1) / 2 = x / 2:=by omega
   rw [if_neg (by omega)] at hm
   rw [e1,Nat.and_self] at hd
   rw [hd,hm,hodd]
   exact ⟨by omega,by omega⟩
  ·have e1:(x - 1) / 2 = x / 2 - 1:=by omega
   rw [if_neg (by omega)] at hm
   rw [e1] at hd
   obtain ⟨h2,h3⟩:=ih (x / 2) (by omega) (by rw [Nat.pow_succ] at h1;omega)
   rw [hd,hm]
   exact ⟨by omega,by omega⟩
theorem count_l0 (f:Nat) (hf:∀ x,x < 4294967296 → x < 2 ^ f):∀ (n x c:Nat),x ≤ n → x < 4294967296 → c + pc f x < 1000 → Ev (fun k=>q10.l0 k (x:Int) (c:Int)) ((c + pc f x:Nat):Int):=by
 intro n
 induction n with
 | zero =>
  intro x c h0 h1 h2
  obtain rfl:x = 0:=by omega
  refine Ev.step (fun k=>q10.l0.eq_2 ..) ?_
  exact Ev.neg (by omega) (Ev.val (Ev.now _) (by rw [pc_zero];rfl))
 | succ n ih =>
  intro x c h0 h1 h2
  refine Ev.step (fun k=>q10.l0.eq_2 ..) ?_
  by_cases hx:x = 0
  ·subst hx
   exact Ev.neg (by omega) (Ev.val (Ev.now _) (by rw [pc_zero];rfl))
  ·obtain ⟨a,b⟩:=pc_clear f x (by omega) (hf x h1)
   have e:((x:Int) - 1) % 4294967296 = ((x - 1:Nat):Int):=by omega
   rw [e,u32_and x (x - 1) h1 (by omega),w1 c (by omega)]
   refine Ev.pos (by omega) (Ev.val (ih (x &&& (x - 1)) (c + 1) (by omega) (by omega) (by omega)) ?_)
   congr 1;omega
theorem pc_set:∀ (f i s:Nat),i < f → ¬ s.testBit i = true → pc f (s ||| 2 ^ i) = pc f s + 1:=by
 intro f
 induction f with
 | zero=>intro i s hi;omega
 | succ f ih =>
  intro i s hi hs
  rw [pc,pc]
  have hd:(s ||| 2 ^ i) / 2 = s / 2 ||| 2 ^ i / 2:=Nat.or_div_two
  have hm:=Nat.testBit_or s (2 ^ i) 0
  rw [Nat.testBit_zero,Nat.testBit_zero,Nat.testBit_zero,Bool.eq_iff_iff,Bool.or_eq_true,decide_eq_true_eq,decide_eq_true_eq,decide_eq_true_eq] at hm
  cases i with
  | zero =>
   rw [Nat.testBit_zero,decide_eq_true_eq] at hs
   have h1:=hm.2 (.inr rfl)
   rw [hd,h1,Nat.pow_zero,show (1:Nat) / 2 = 0 from rfl,Nat.or_zero]
   omega
  | succ i =>
   have e:2 ^ (i + 1) / 2 = 2 ^ i:=by rw [Nat.pow_succ];omega
   have e2:2 ^ (i + 1) % 2 = 0:=by rw [Nat.pow_succ];omega
   rw [hd,e,ih i (s / 2) (by omega) (by rw [Nat.testBit_div_two];exact hs)]
   rw [e2] at hm
   have:(s ||| 2 ^ (i + 1)) % 2 = s % 2:=by
    by_cases c:s % 2 = 1
    ·rw [hm.2 (.inl c),c]
    ·have:=mt hm.1 (fun h=>h.elim c (fun h=>by omega))
     omega
   omega
theorem pc_bs (f:Nat):∀ (L:List Int) (s:Nat),L.Nodup → (∀ x ∈ L,0 ≤ x ∧ x < f ∧ ¬ s.testBit x.toNat = true) → pc f (bs L s) = pc f s + L.length
 | [],s,_,_=>rfl
 | x :: L,s,hd,h=>by
  obtain ⟨d1,d2⟩:=List.nodup_cons.1 hd
  obtain ⟨x0,x1,x2⟩:=h x (List.mem_cons_self ..)
  rw [bs,pc_bs f L _ d2 (fun y hy=>?_),pc_set f _ _ (by omega) x2,List.length_cons]
  ·omega
  ·obtain ⟨y0,y1,y2⟩:=h y (List.mem_cons_of_mem _ hy)
   refine ⟨y0,y1,fun hb=>?_⟩
   rw [Nat.or_comm] at hb
   rcases tb_or.1 hb with e|e
   ·exact d1 (by rw [show x = y by omega];exact hy)
   ·exact y2 e
theorem count_f {L:List Int} (hd:L.Nodup) (hL:∀ x ∈ L,0 ≤ x ∧ x < 32) (hl:L.length < 100):Ev (fun k=>q10.f k ((bs L 0:Nat):Int)) (L.length:Int):=by
 obtain ⟨f,hf⟩:∃ f:Nat,f = 32:=⟨32,rfl⟩
 have e:=pc_bs f L 0 hd (fun x hx=>⟨(hL x hx).1,by have:=(hL x hx).2;omega,by simp⟩)
 rw [pc_zero,Nat.zero_add] at e
 unfold q10.f
 exact Ev.val (count_l0 f (fun x hx=>by rw [hf];exact hx) (bs L 0) (bs L 0) 0 (Nat.le_refl _) (bs_lt hL) (by omega)) (by rw [e,Nat.zero_add])
end Go.Proofs.Ytnomeokicfpidaa.M
namespace Go.Proofs.Ytnomeokicfpidaa.M
open Go.RowKit Go.Proofs.YtnomeokicfpidaaW.PrintWords Go.Proofs.YtnomeokicfpidaaW.PrintLast Go.Proofs.YtnomeokicfpidaaW.PrintMore Go.Proofs.Ytnomeokicfpidaa.Q
set_option linter.unusedVariables false
theorem rd_mid (pre:List Int) (x:Int) (rest:List Int):rd (pre ++ x :: rest) (pre.length:Int) = x:=by
 rw [rd_nat];simp [List.getD_eq_getElem?_getD]
section
variable {K P:List Int} {ls:List Int} {Q:Int → Prop}
theorem cfg_l2 (T L:List Int) (x6:Int) (hT:T.length + L.length < 1000) (hL:∀ x ∈ L,0 ≤ x ∧ x < 32):∀ (rest pre:List Int) (s:Nat),L = pre ++ rest → s < 4294967296 →
  Ex (fun k=>q7.l0 k ls ((bs rest s:Nat):Int) x6 (T ++ L) K P) Q →
  Ex (fun k=>q7.l2 k ls (s:Int) x6 T L L (L.length:Int) (pre.length:Int) K P) Q:=by
 intro rest
 induction rest with
 | nil =>
  intro pre s hp hs h
  refine Ex.st h (fun k=>?_)
  simp only [q7.l2]
  have:L.length = pre.length:=by rw [hp,List.append_nil]
  rw [if_neg (by omega),if_pos (by omega)];rfl
 | cons x rest ih =>
  intro pre s hp hs h
  have hx:=hL x (by rw [hp];simp)
  have hlen:L.length = pre.length + (rest.length + 1):=by rw [hp];simp
  have hr:rd L (pre.length:Int) = x:=by rw [hp];exact rd_mid pre x rest
  obtain ⟨j,rfl⟩:∃ j:Nat,x = (j:Int):=⟨x.toNat,by omega⟩
  have hb:s ||| 2 ^ j < 4294967296:=Nat.or_lt_two_pow (n:=32) hs (pow_lt32 (by omega))
  refine Ex.st (ih (pre ++ [(j:Int)]) (s ||| 2 ^ j) (by rw [hp];simp) hb h) (fun k=>?_)
  simp only [q7.l2]
  rw [if_pos (by omega),if_pos (by omega),if_pos (by omega),hr,u64w j (by omega),if_pos (by omega),shl_one j (by omega),u32_or s (2 ^ j) hs (pow_lt32 (by omega)),w1 _ (by omega)]
  congr 1
  rw [List.length_append];rfl
theorem cfg_j2 (hI:Inv K P) (h24:K.length ≤ 24) (T L:List Int) (a x6:Int) (h6:0 ≤ x6) (h6' : x6 < 1000) (s:Nat) (hs:s < 4294967296) (hT:T.length < 100) (hL:L = sk K P a)
  (h:∀ (L' : List Int) (x6' : Int),(∀ x ∈ L',x ∈ sk K P a) → L'.Nodup → (sk K P a = [] ∨ (one K a = true ∧ ∃ k,L' = [k]) ∨ (one K a = false ∧ L' = sk K P a)) → 0 ≤ x6' → x6' ≤ x6 + 1 →
   Ex (fun k=>q7.l0 k ls ((bs L' s:Nat):Int) x6' (T ++ L') K P) Q) :
  Ex (fun k=>q7.j2 k ls (s:Int) x6 T L (one K a && decide ((L.length:Int) > 1)) K P) Q:=by
 have hn:=hI.1
 have hin:∀ x ∈ sk K P a,0 ≤ x ∧ x < 32:=fun x hx=>by
  have:=kids_in hn a x (List.mem_filter.1 hx).1
  omega
 have hlen:(sk K P a).length ≤ 24:=Nat.le_trans (List.length_filter_le _ _) (Nat.le_trans (kids_len P a) (by omega))
 have hnd:(sk K P a).Nodup:=List.Pairwise.filter _ (kids_nodup P a)
 subst hL
 have pick:∀ v:Int,one K a = true → (1:Int) < ((sk K P a).length:Int) → Ex (fun k=>q7.j3 k ls (s:Int) (wrap64 (x6 + 1)) T (((sk K P a).take ((wrap64 (v % ((sk K P a).length:Int) + 1)):Int).toNat).drop (v % ((sk K P a).length:Int)).toNat) K P) Q:=by
  intro v ho hl
  have h0:=Int.emod_nonneg v (show ((sk K P a).length:Int) ≠ 0 by omega)
  have h1:=Int.emod_lt_of_pos v (show 0 < ((sk K P a).length:Int) by omega)
  generalize v % ((sk K P a).length:Int) = t at h0 h1
  obtain ⟨i,rfl⟩:∃ i:Nat,t = (i:Int):=⟨t.toNat,by omega⟩
  have hi:i < (sk K P a).length:=by omega
  rw [w1 i (by omega),Int.toNat_natCast,Int.toNat_natCast]
  have e:((sk K P a).take (i + 1)).drop i = [(sk K P a)[i]]:=by
   rw [List.take_succ_eq_append_getElem hi,List.drop_append_of_le_length (by rw [List.length_take];omega),List.drop_eq_nil_of_le (by rw [List.length_take];omega)];rfl
  rw [e]
  have hm:(sk K P a)[i] ∈ sk K P a:=List.getElem_mem hi
  have w6:wrap64 (x6 + 1) = x6 + 1:=w64 (by omega) (by omega)
  rw [w6]
  refine Ex.st (cfg_l2 T [(sk K P a)[i]] (x6 + 1) (by simp only [List.length_singleton];omega) (fun x hx=>by rw [List.mem_singleton] at hx;rw [hx];exact hin _ hm) [(sk K P a)[i]] [] s rfl hs
   (h [(sk K P a)[i]] (x6 + 1) (fun x hx=>by rw [List.mem_singleton] at hx;rw [hx];exact hm) (by simp) (.inr (.inl ⟨ho,_,rfl⟩)) (by omega) (by omega))) (fun k=>?_)
  simp only [q7.j3];rfl
 by_cases hc:one K a = true ∧ ((sk K P a).length:Int) > 1
 ·rw [hc.1,Bool.true_and,decide_eq_true hc.2]
  by_cases hv:x6 < (ls.length:Int)
  ·refine Ex.st (pick (rd ls x6) hc.1 hc.2) (fun k=>?_)
   simp only [q7.j2]
   have h0:=Int.emod_nonneg (rd ls x6) (show ((sk K P a).length:Int) ≠ 0 by omega)
   have h1:=Int.emod_lt_of_pos (rd ls x6) (show 0 < ((sk K P a).length:Int) by omega)
   have hw:wrap64 (rd ls x6 % ((sk K P a).length:Int) + 1) = rd ls x6 % ((sk K P a).length:Int) + 1:=w64 (by omega) (by omega)
   rw [if_pos trivial,if_pos hv,if_pos h6,within_f _ _ (by omega) (by omega),Option.bind_some,hw,if_pos h0,if_pos (by omega),if_pos (by omega)]
  ·have hp0:=pick 0 hc.1 hc.2
   have hw0:q11.f 0 ((sk K P a).length:Int) = some (0 % ((sk K P a).length:Int)):=within_f _ _ (by omega) (by omega)
   rw [Int.zero_emod] at hp0 hw0
   refine Ex.st hp0 (fun k=>?_)
   simp only [q7.j2]
   have hw:wrap64 (0 + 1) = 1:=w64 (by omega) (by omega)
   rw [if_pos trivial,if_neg hv,hw0,Option.bind_some,hw,if_pos (Int.le_refl 0),if_pos (by decide),if_pos (by omega)]
 ·have hf:(one K a && decide (((sk K P a).length:Int) > 1)) = false:=by
   cases ho:one K a with
   | false=>rfl
   | true=>rw [decide_eq_false (fun e=>hc ⟨ho,e⟩)];rfl
  rw [hf]
  have hcase:sk K P a = [] ∨ (one K a = true ∧ ∃ k,sk K P a = [k]) ∨ (one K a = false ∧ sk K P a = sk K P a):=by
   cases ho:one K a with
   | false=>exact .inr (.inr ⟨rfl,rfl⟩)
   | true =>
    have hl:(sk K P a).length ≤ 1:=by
     have:¬ ((sk K P a).length:Int) > 1:=fun e=>hc ⟨ho,e⟩
     omega
    match hS:sk K P a with
    | []=>exact .inl rfl
    | [k]=>exact .inr (.inl ⟨rfl,k,rfl⟩)
    | _ :: _ :: _=>rw [hS] at hl;simp at hl
  refine Ex.st (f:=fun k=>q7.j3 k ls (s:Int) x6 T (sk K P a) K P) (Ex.st (cfg_l2 T (sk K P a) x6 (by omega) hin (sk K P a) [] s rfl hs (h (sk K P a) x6 (fun x hx=>hx) hnd hcase h6 (by omega))) (fun k=>?_)) (fun k=>?_)
  ·simp only [q7.j3];rfl
  ·simp only [q7.j2]
   rw [if_neg (by simp)]
theorem cfg_l1 (hI:Inv K P) (h24:K.length ≤ 24) (T:List Int) (a x6:Int) (ha:a < K.length) (h6:0 ≤ x6) (h6' : x6 < 1000) (s:Nat) (hs:s < 4294967296) (hT:T.length < 100)
  (h:∀ (L' : List Int) (x6' : Int),(∀ x ∈ L',x ∈ sk K P a) → L'.Nodup → (sk K P a = [] ∨ (one K a = true ∧ ∃ k,L' = [k]) ∨ (one K a = false ∧ L' = sk K P a)) → 0 ≤ x6' → x6' ≤ x6 + 1 →
   Ex (fun k=>q7.l0 k ls ((bs L' s:Nat):Int) x6' (T ++ L') K P) Q) (ha1:-1 ≤ a) :
  ∀ (rest pre acc:List Int),kids P a = pre ++ rest → acc = pre.filter (fun x=>solidB (rd K x)) →
  Ex (fun k=>q7.l1 k ls (s:Int) x6 T a acc (kids P a) ((kids P a).length:Int) (pre.length:Int) K P) Q:=by
 have hn:=hI.1
 have hkl:=kids_len P a
 intro rest
 induction rest with
 | nil =>
  intro pre acc hp hacc
  rw [List.append_nil] at hp
  have ea:acc = sk K P a:=by rw [hacc,← hp];rfl
  have hl:(kids P a).length = pre.length:=by rw [hp]
  have hj:=cfg_j2 hI h24 T acc a x6 h6 h6' s hs hT ea h
  by_cases h0:a < 0
  ·refine Ex.st hj (fun k=>?_)
   simp only [q7.l1]
   rw [if_neg (by omega),if_pos h0,show one K a = true by rw [show a = -1 by omega];rfl,Bool.true_and]
  ·have eo:one K a = (rd K a == 1):=by unfold one;rw [show (a == -1) = false from beq_eq_false_iff_ne.mpr (by omega)];rfl
   by_cases h1:rd K a = 1
   ·refine Ex.st hj (fun k=>?_)
    simp only [q7.l1]
    rw [if_neg (by omega),if_neg h0,if_pos (by omega),if_pos (by omega),if_pos h1,eo,h1];rfl
   ·refine Ex.st hj (fun k=>?_)
    simp only [q7.l1]
    rw [if_neg (by omega),if_neg h0,if_pos (by omega),if_pos (by omega),if_neg h1,eo,show (rd K a == 1) = false from beq_eq_false_iff_ne.mpr h1];rfl
 | cons x rest ih =>
  intro pre acc hp hacc
  have hlen:(kids P a).length = pre.length + (rest.length + 1):=by rw [hp];simp
  have hr:rd (kids P a) (pre.length:Int) = x:=by rw [hp];exact rd_mid pre x rest
  have hx:=kids_in hn a x (by rw [hp];simp)
  have hal:acc.length ≤ pre.length:=by rw [hacc];exact List.length_filter_le _ _
  have hok:=okS_iff.1 (hI.2.2.1 x.toNat (by omega))
  have er:K.getD x.toNat 0 = rd K x:=rfl
  rw [er] at hok
  by_cases hx2:rd K x ≤ 2
  ·have hsol:solidB (rd K x) = true:=solidB_iff.2 (by omega)
   refine Ex.st (ih (pre ++ [x]) (acc ++ [x]) (by rw [hp];simp) (by rw [hacc,List.filter_append,List.filter_cons,if_pos hsol];rfl)) (fun k=>?_)
   simp only [q7.l1]
   rw [if_pos (by omega),if_pos (by omega),if_pos (by omega),hr,if_pos (by omega),if_pos (by omega),if_pos hx2,if_pos (by omega),w1 _ (by omega),List.length_append];rfl
  ·have hsol:¬ solidB (rd K x) = true:=fun e=>by have:=solidB_iff.1 e;omega
   refine Ex.st (ih (pre ++ [x]) acc (by rw [hp];simp) (by rw [hacc,List.filter_append,List.filter_cons,if_neg hsol];simp)) (fun k=>?_)
   simp only [q7.l1]
   rw [if_pos (by omega),if_pos (by omega),if_pos (by omega),hr,if_pos (by omega),if_pos (by omega),if_neg hx2,w1 _ (by omega),List.length_append];rfl
end
theorem cfg_l0 {K P:List Int} (hI:Inv K P) (h24:K.length ≤ 24) (ls:List Int):∀ (d:Nat) (D T:List Int) (s:Nat) (x6:Int),d + D.length = K.length + 1 → CI K P D T s → 0 ≤ x6 → x6 ≤ D.length →
  Ex (fun k=>q7.l0 k ls (s:Int) x6 T K P) (fun c=>∃ s:Nat,c = s ∧ s < 2 ^ K.length ∧ LP K P (-1) s):=by
 have hn:=hI.1
 intro d
 induction d with
 | zero =>
  intro D T s x6 hd hC h0 h1
  have:=hC.len hI
  have hT:T = []:=List.length_eq_zero_iff.1 (by omega)
  subst hT
  refine ⟨s,Ev.ret (fun k=>?_),s,rfl,hC.lt hI,hC.done hI⟩
  simp only [q7.l0]
  rw [if_neg (by simp)]
 | succ d ih =>
  intro D T s x6 hd hC h0 h1
  cases T with
  | nil =>
   refine ⟨s,Ev.ret (fun k=>?_),s,rfl,hC.lt hI,hC.done hI⟩
   simp only [q7.l0]
   rw [if_neg (by simp)]
  | cons a T =>
   have hlen:=hC.len hI
   have hs:s < 4294967296:=Nat.lt_of_lt_of_le (hC.lt hI) (Nat.pow_le_pow_right (by decide) (show K.length ≤ 32 by omega))
   rw [List.length_cons] at hlen
   have ha:-1 ≤ a ∧ a < K.length:=by
    rcases hC.el a (List.mem_append_right _ (List.mem_cons_self ..)) with e|⟨e,f,_⟩ <;> omega
   refine Ex.st (f:=fun k=>(q3.f k K P a).bind fun t109=>(q7.l1 k ls (s:Int) x6 T a ([]:List Int) t109 (t109.length:Int) 0 K P)) (Ex.bd (rKids_f K P a (by omega)) ?_) (fun k=>?_)
   ·refine cfg_l1 hI h24 T a x6 ha.2 h0 (by omega) s hs (by omega) ?_ ha.1 (kids P a) [] [] rfl rfl
    intro L' x6' hL hd' hc a0 a1
    have hp:∀ x ∈ L',0 ≤ x:=fun x hx=>(kids_in hn a x (List.mem_filter.1 (hL x hx)).1).1
    refine ih (D ++ [a]) (T ++ L') (bs L' s) x6' (by rw [List.length_append];simp;omega) (hC.step hI hL hd' hc (fun j=>tb_bs hp)) a0 (by rw [List.length_append];simp;omega)
   ·simp only [q7.l0]
    rw [if_pos (by simp only [List.length_cons];omega),if_pos (by simp only [List.length_cons];omega),if_pos (by simp only [List.length_cons];omega)]
    rfl
theorem config_f {K P:List Int} (hI:Inv K P) (h24:K.length ≤ 24) (ls:List Int) :
  Ex (fun k=>q7.f k K P ls) (fun c=>∃ s:Nat,c = s ∧ s < 2 ^ K.length ∧ LP K P (-1) s):=by
 refine cfg_l0 hI h24 ls (K.length + 1) [] [-1] 0 0 rfl ⟨by simp,fun x hx=>.inl (by simpa using hx),fun j=>?_,fun x hx=>(List.not_mem_nil hx).elim,by simp⟩ (by omega) (by simp)
 rw [Nat.zero_testBit]
 simp
end Go.Proofs.Ytnomeokicfpidaa.M
