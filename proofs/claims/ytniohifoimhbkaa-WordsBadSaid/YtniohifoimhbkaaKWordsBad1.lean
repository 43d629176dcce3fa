-- merged and slimmed by slim.py (a program of this repo)
import Derived.Test.YtniohifoimhbkaaKWordsBad0
namespace Go.Proofs.Ytniohifoimhbkaa.Pure
open Go.RowKit Go.Proofs.YtniohifoimhbkaaW.PrintWords Go.Proofs.YtniohifoimhbkaaW.PrintLast Go.Proofs.YtniohifoimhbkaaW.PrintMore Go.Proofs.Ytniohifoimhbkaa.Q Go.Proofs.Ytniohifoimhbkaa.M
set_option linter.unusedVariables false
theorem num_size (c:Int):(strOfNums [c]).size = 1:=rfl
theorem num_bt (c:Int) (h0:0 ≤ c) (h1:c < 256):bt (strOfNums [c]) ((0:Nat):Int) = c:=by
 rw [bt_nat _ 0 (by rw [num_size];omega)]
 have:(strOfNums [c])[0]'(by rw [num_size];omega) = UInt8.ofNat c.toNat:=rfl
 rw [this]
 simp only [UInt8.toNat_ofNat']
 omega
theorem bad_j1 (a0 a1:ByteArray) (h1:a1.size ≤ 140737488351232) (c:Int) (c0:0 ≤ c) (c1:c < 256) (hc:c < 32 ∨ c > 126):Ev (fun k=>q0.j1 k a0 a1 c) true:=by
 obtain ⟨t,ht,t0,t1,t2⟩:=clean_f a0
 refine Ev.step (fun k=>q0.j1.eq_2 ..) ?_
 rw [ht]
 have z1:(t ++ (⟨#[32]⟩:ByteArray)).size = t.size + 1:=by rw [ByteArray.size_append];rfl
 have z2:((t ++ (⟨#[32]⟩:ByteArray)) ++ strOfNums [c]).size = t.size + 2:=by rw [ByteArray.size_append,z1,num_size]
 have z3:(((t ++ (⟨#[32]⟩:ByteArray)) ++ strOfNums [c]) ++ a1).size = t.size + 2 + a1.size:=by rw [ByteArray.size_append,z2]
 have y2:((t ++ (⟨#[32]⟩:ByteArray)) ++ (⟨#[35]⟩:ByteArray)).size = t.size + 2:=by rw [ByteArray.size_append,z1];rfl
 have y3:(((t ++ (⟨#[32]⟩:ByteArray)) ++ (⟨#[35]⟩:ByteArray)) ++ strOfNums [c]).size = t.size + 3:=by rw [ByteArray.size_append,y2,num_size]
 have y4:((((t ++ (⟨#[32]⟩:ByteArray)) ++ (⟨#[35]⟩:ByteArray)) ++ strOfNums [c]) ++ a1).size = t.size + 3 + a1.size:=by rw [ByteArray.size_append,y3]
 have w1' : wrap64 (((t ++ (⟨#[32]⟩:ByteArray)).size:Int) + 1) = ((t.size + 1 + 1:Nat):Int):=by rw [z1];exact w1 (t.size + 1) (by omega)
 have b0:∀ k:Nat,k < t.size + 1 → bt (t ++ (⟨#[32]⟩:ByteArray)) (k:Int) = if k < t.size then bt t (k:Int) else 32:=fun k hk=>by
  rw [bt_app _ _ _ (by omega)]
  by_cases e:k < t.size
  ·rw [if_pos e,if_pos e]
  ·rw [if_neg e,if_neg e,show k - t.size = 0 by omega];rfl
 have ok0:∀ k:Nat,k < t.size + 1 → 32 ≤ bt (t ++ (⟨#[32]⟩:ByteArray)) (k:Int) ∧ bt (t ++ (⟨#[32]⟩:ByteArray)) (k:Int) ≤ 126 ∧ bt (t ++ (⟨#[32]⟩:ByteArray)) (k:Int) ≠ 35:=fun k hk=>by
  rw [b0 k hk]
  by_cases e:k < t.size
  ·rw [if_pos e];have:=t2 k e;omega
  ·rw [if_neg e];omega
 have s2:∀ k:Nat,k < t.size + 1 → bt (((t ++ (⟨#[32]⟩:ByteArray)) ++ strOfNums [c]) ++ a1) (k:Int) = bt (t ++ (⟨#[32]⟩:ByteArray)) (k:Int):=fun k hk=>by
  rw [bt_app_l (by omega),bt_app_l (by omega)]
 have s2' : bt (((t ++ (⟨#[32]⟩:ByteArray)) ++ strOfNums [c]) ++ a1) ((t.size + 1:Nat):Int) = c:=by
  rw [bt_app_l (by omega),bt_app_r (by omega) (by rw [num_size];omega),z1,Nat.sub_self]
  exact num_bt c c0 c1
 have S2:Ev (fun k=>q7.f k (((t ++ (⟨#[32]⟩:ByteArray)) ++ strOfNums [c]) ++ a1)) ([],((t.size + 1 + 1:Nat):Int)):=by
  obtain ⟨m,_,_,_,hm0⟩:=cut_one (((t ++ (⟨#[32]⟩:ByteArray)) ++ strOfNums [c]) ++ a1) 35 (by omega)
  have hm:CutAt (((t ++ (⟨#[32]⟩:ByteArray)) ++ strOfNums [c]) ++ a1) 35 m:=hm0
  have hlt:t.size + 1 < m:=by
   rcases Nat.lt_or_ge (t.size + 1) m with h|h
   ·exact h
   ·exfalso
    rcases hm.2.2 with g|g
    ·omega
    ·by_cases e:m = t.size + 1
     ·rw [e,s2'] at g;omega
     ·rw [s2 m (by omega)] at g
      exact (ok0 m (by omega)).2.2 g
  refine split_bad (by omega) hm (t.size + 1) hlt (by rw [s2'];exact hc) (fun k hk=>?_)
  rw [s2 k (by omega)]
  have:=ok0 k (by omega)
  exact ⟨this.1,this.2.1⟩
 have s3:∀ k:Nat,k < t.size + 1 → bt ((((t ++ (⟨#[32]⟩:ByteArray)) ++ (⟨#[35]⟩:ByteArray)) ++ strOfNums [c]) ++ a1) (k:Int) = bt (t ++ (⟨#[32]⟩:ByteArray)) (k:Int):=fun k hk=>by
  rw [bt_app_l (by omega),bt_app_l (by omega),bt_app_l (by omega)]
 have s3' : bt ((((t ++ (⟨#[32]⟩:ByteArray)) ++ (⟨#[35]⟩:ByteArray)) ++ strOfNums [c]) ++ a1) ((t.size + 1:Nat):Int) = 35:=by
  rw [bt_app_l (by omega),bt_app_l (by omega),bt_app_r (by omega) (by rw [z1];show _ < _ + 1;omega),z1,Nat.sub_self];rfl
 have S3:Ev (fun k=>q7.f k ((((t ++ (⟨#[32]⟩:ByteArray)) ++ (⟨#[35]⟩:ByteArray)) ++ strOfNums [c]) ++ a1)) ([⟨((((t ++ (⟨#[32]⟩:ByteArray)) ++ (⟨#[35]⟩:ByteArray)) ++ strOfNums [c]) ++ a1).extract 0 (0 + t.size),((0 + 1:Nat):Int)⟩],0):=by
  refine split_words (m:=t.size + 1) (by omega) ⟨by omega,fun k hk=>?_,.inr s3'⟩ ?_ (by simp) (fun k hk=>?_)
  ·rw [s3 k hk];exact (ok0 k hk).2.2
  ·refine ⟨0,t.size,Nat.le_refl _,t0,by omega,rfl,fun k a b=>by omega,fun k a b=>?_,.inr ?_,fun k a b=>?_⟩
   ·rw [s3 k (by omega),b0 k (by omega),if_pos (by omega)]
    have:=t2 k (by omega);omega
   ·rw [Nat.zero_add,s3 _ (by omega),b0 _ (by omega),if_neg (by omega)]
   ·rw [s3 k (by omega),b0 k (by omega),if_neg (by omega)]
  ·rw [s3 k hk]
   have:=ok0 k hk
   exact ⟨this.1,this.2.1⟩
 refine Ev.som (Ev.pos (by omega) (Ev.som (Ev.pos (by rw [z1,num_size];omega) (Ev.pos (by rw [z2];omega) (Ev.bd S2 (Ev.pos (by rw [z1];omega) (Ev.som (Ev.pos (by rw [y2,num_size];omega) (Ev.pos (by rw [y3];omega) (Ev.bd S3 ?_))))))))))
 rw [w1']
 exact Ev.pos rfl (Ev.pos rfl (Ev.pos rfl (Ev.pos rfl (Ev.bd wakes1_f (Ev.now _)))))
theorem WordsBad:q0.Pure:=by
 intro a0 a1 a2 _ h1 hw
 refine Ev.rounds (r:=true) ?_
 have hr:0 ≤ a2 ∧ a2 < 256:=by
  simp [Lit.wf,IntKind.min,IntKind.max,IntKind.signed,IntKind.bits] at hw
  omega
 have j0f:(a2 < 32 ∨ a2 > 126) → Ev (fun k=>q0.j0 k a0 a1 a2 false) true:=fun h=>by
  refine Ev.step (fun k=>q0.j0.eq_2 ..) ?_
  exact Ev.neg (by simp) (bad_j1 a0 a1 h1 a2 hr.1 hr.2 h)
 unfold q0.f
 by_cases h32:a2 ≥ 32
 ·refine Ev.pos h32 ?_
  by_cases h126:a2 ≤ 126
  ·rw [decide_eq_true h126]
   refine Ev.step (fun k=>q0.j0.eq_2 ..) ?_
   exact Ev.pos rfl (bad_j1 a0 a1 h1 9 (by omega) (by omega) (by omega))
  ·rw [decide_eq_false h126];exact j0f (by omega)
 ·exact Ev.neg h32 (j0f (by omega))
end Go.Proofs.Ytniohifoimhbkaa.Pure
