-- merged and slimmed by slim.py (a program of this repo)
import Derived.Test.YtnomeokicfpidaaWMore
import Derived.Test.YtnomeokicfpidaaShelf
import Derived.Test.YtnomeokicfpidaaWRepsOne
import Derived.Test.YtnomeokicfpidaaWInv
import Derived.Test.YtnomeokicfpidaaWGuard
namespace Go.Proofs.YtnomeokicfpidaaW.PrintWords
open Go.RowKit
set_option linter.unusedVariables false
universe u
class St (w w' : World):Prop where
  b:∀ {w0:World},Below w0.heap.size w0 w → Below w0.heap.size w0 w'
  h:∀ {g:Nat} {o:Obj},w.heap[g]? = some o → w'.heap[g]? = some o
  r:∀ {α:Type} {d:Kd α} {e base:Nat} {ok:Nat → Prop} {v:Value} {xs:List α},d.R e w base ok v xs → d.R e w' base ok v xs
  c:∀ {α:Type} {d:Kd α} {A:Option Addr} {n:Nat} {xs:List α},d.C w A n xs → d.C w' A n xs
instance St.refl (w:World):St w w:=⟨id,id,id,id⟩
instance St.alloc (w w' : World) (o:Obj) [i:St w w']:St w (w'.alloc o):=⟨fun h=>below_alloc (i.b h) o,fun h=>blk_alloc (i.h h) o,fun h=>Kd.R_alloc (i.r h) o,fun h=>Kd.C_alloc (i.c h) o⟩
instance St.drewN (w w' : World) (n:Nat) [i:St w w']:St w (w'.drewN n):=⟨fun h=>pw_below_drewN (i.b h) n,fun h=>blk_drewN (i.h h) n,fun h=>Kd.R_drewN (i.r h) n,fun h=>Kd.C_drewN (i.c h) n⟩
instance St.drew (w w' : World) [i:St w w']:St w w'.drew:=⟨fun h=>below_drew1 (i.b h),fun h=>blk_drew (i.h h),fun h=>Kd.R_drew (i.r h),fun h=>Kd.C_drew (i.c h)⟩
theorem bq {w0 w w' : World} (h:Below w0.heap.size w0 w) [i:St w w']:Below w0.heap.size w0 w':=i.b h
theorem hq {w w' : World} {g:Nat} {o:Obj} (h:w.heap[g]? = some o) [i:St w w']:w'.heap[g]? = some o:=i.h h
theorem rq {w w' : World} {α:Type} {d:Kd α} {e base:Nat} {ok:Nat → Prop} {v:Value} {xs:List α} (h:d.R e w base ok v xs) [i:St w w']:d.R e w' base ok v xs:=i.r h
theorem cq {w w' : World} {α:Type} {d:Kd α} {A:Option Addr} {n:Nat} {xs:List α} (h:d.C w A n xs) [i:St w w']:d.C w' A n xs:=i.c h
class Sg (g g' : Nat) (w w' : World):Prop where
  b:∀ {w0:World},w0.heap.size ≤ g → w0.heap.size ≤ g' → Below w0.heap.size w0 w → Below w0.heap.size w0 w'
instance Sg.refl (g g' : Nat) (w:World):Sg g g' w w:=⟨fun _ _ h=>h⟩
instance Sg.alloc (g g' : Nat) (w w' : World) (o:Obj) [i:Sg g g' w w']:Sg g g' w (w'.alloc o):=⟨fun a b h=>below_alloc (i.b a b h) o⟩
instance Sg.drewN (g g' : Nat) (w w' : World) (n:Nat) [i:Sg g g' w w']:Sg g g' w (w'.drewN n):=⟨fun a b h=>pw_below_drewN (i.b a b h) n⟩
instance Sg.drew (g g' : Nat) (w w' : World) [i:Sg g g' w w']:Sg g g' w w'.drew:=⟨fun a b h=>below_drew1 (i.b a b h)⟩
instance Sg.set1 (g g' j:Nat) (v:Value) (w w' : World) [i:Sg g g' w w']:Sg g g' w (w'.setCell ⟨g,j,none⟩ v):=⟨fun a b h=>below_set (i.b a b h) a⟩
instance Sg.set2 (g g' j:Nat) (v:Value) (w w' : World) [i:Sg g g' w w']:Sg g g' w (w'.setCell ⟨g',j,none⟩ v):=⟨fun a b h=>below_set (i.b a b h) b⟩
theorem bg {w0 w w' : World} {g g' : Nat} (h:Below w0.heap.size w0 w) (a:Aside0 (w0.heap.size ≤ g)) (b:Aside0 (w0.heap.size ≤ g')) [i:Sg g g' w w']:Below w0.heap.size w0 w':=i.b a.out b.out h
theorem zk {p:Prop} (h:p):Aside0 p:=⟨h⟩
theorem oA {p:Prop} [Decidable p] (h:decide p = true:=by first|(with_reducible assumption)|assumption):p:=of_decide_eq_true h
theorem oE {α:Sort u} {a b:α} (h:a = b:=by first|rfl|(simp;done)|(simp [*];done)):a = b:=h
theorem oF {α:Sort u} {a b:α} (h:a = b:=by first|done|rfl|((try simp only [List.map_toArray,List.map_cons,List.map_nil]);first|done|rfl|(simp only [List.length_drop,List.length_take];rfl))):a = b:=h
theorem oD {p:Prop} [Decidable p] (h:decide p = true):p:=of_decide_eq_true h
end Go.Proofs.YtnomeokicfpidaaW.PrintWords
namespace Go.Proofs.YtnomeokicfpidaaW.PrintWords
open Go.RowKit
set_option linter.unusedVariables false
set_option linter.unusedSimpArgs false
theorem ownBlock_cut (A:Option Addr) (n m c c' j k:Nat):(Value.slice (if c = j then A else A.map (·.add k)) n c').ownBlock = (Value.slice A m c).ownBlock:=by
 split
 ·cases A <;> rfl
 ·cases A with
  | none=>rfl
  | some a =>
   show some (a.add k).block = some a.block
   unfold Addr.add;split <;> rfl
namespace Kd
variable {P:Program} {ops:Array Oper} {rest:List Oper} {o:Oper} {a:Act} {Q' : Exit → Act → World → Prop} {α:Type}
theorem Q_append_rows (d:Kd α) {Rr:α → List Value → Prop} {w0 W:World} (base:Nat) (hgd:o.guard = none) (s x:Operand) (t e:TypeId) (z:Value) (bytes:Nat)
  (ho:o.op = .call { callee:=.builtin .append,args:=#[s,x],argTypes:=#[t,t] })
  (ht:P.underlying t = some (.slice e)) (hinfo:(P.info? e).map (fun i=>(i.zero,i.size,i.bytes)) = some (some z,d.sz,bytes)) (hz:z.cells.size = d.sz) (hs0:0 < d.sz) (hb0:0 < bytes)
  (v:Value) (xs ys:List α) (A:Option Addr) (m c:Nat) (ok okp:Nat → Prop) (hs:a.eval s = v) (hx:a.eval x = .slice A m c)
  (HO:d.Q e W base ok v xs) (HR:ReadsRow Rr d.sz W A m ys) (hKM:∀ x cs,Rr x cs → d.M W base okp x cs) (hokp:∀ k,okp k → ok k ∧ some k ≠ v.ownBlock) (hfresh:∀ k,W.heap.size ≤ k → ok k)
  (HB:Below base w0 W) (hbase:base ≤ W.heap.size) (hl:(xs.length + m) * bytes ≤ 140737488355328)
  (h:∀ v1 w1,d.Q e w1 base ok v1 (xs ++ ys) → Below base w0 w1 → W.grownBy w1 v.ownBlock → (v1.ownBlock = v.ownBlock ∨ ∃ b,v1.ownBlock = some b ∧ W.heap.size ≤ b) → wpList P ops Q' rest (a.put o.dst v1) w1) :
  wpList P ops Q' (o :: rest) a W:=by
 obtain ⟨i0,hi,hzz⟩:=Option.map_eq_some_iff.1 hinfo
 simp only [Prod.mk.injEq] at hzz
 obtain ⟨hz0,hz1,hz2⟩:=hzz
 have hm:ys.length = m:=HR.1
 have hlen:xs.length + m ≤ 140737488355328:=Nat.le_trans (Nat.le_mul_of_pos_right _ hb0) hl
 obtain ⟨hok,inner,hown,hr⟩:=HO
 have hrun:∃ v1 w1,(Builtin.append_ #[t,t] o.type #[v,.slice A m c]).run P W = .ok v1 w1 ∧ d.Q e w1 base ok v1 (xs ++ ys) ∧ W.grownBy w1 v.ownBlock ∧ (v1.ownBlock = v.ownBlock ∨ ∃ b,v1.ownBlock = some b ∧ W.heap.size ≤ b):=by
  by_cases h0:m = 0
  ·subst h0
   obtain rfl:ys = []:=List.eq_nil_of_length_eq_zero hm
   refine ⟨v,W,?_,by rw [List.append_nil];exact ⟨hok,inner,hown,hr⟩,World.grownBy.refl W _,.inl rfl⟩
   rcases hown.2 with ⟨hn,A',rfl,_⟩|⟨g,off,cap,cur,rfl,_,_,hnc,_⟩
   ·rcases A with _|ad <;> rcases A' with _|ad' <;> simp [Builtin.append_,run_underlying ht,sizeOf,typeInfo,hi,Builtin.lenOf,Builtin.firstCells,storeCells,loadCells,loadCellsFrom,hn]
   ·rcases A with _|ad <;> simp [Builtin.append_,run_underlying ht,sizeOf,typeInfo,hi,Builtin.lenOf,Builtin.firstCells,hnc,storeCells,loadCells,loadCellsFrom]
  ·rcases A with _|ad
   ·obtain ⟨ad,h,_⟩:=HR.2.2 (Nat.pos_of_ne_zero h0)
    cases h
   ·obtain ⟨news,hnr,hnc⟩:=ReadsRow.inner_ HR
    have hnM:Reps (d.M W base okp) d.sz ys news:=hnr.imp_ (fun p c hp=>hKM p c hp)
    have hone:∀ u ∈ news,u.oneCell' = true:=by
     intro u hu
     obtain ⟨q,hq,rfl⟩:=List.mem_iff_getElem.1 hu
     have hql:q / d.sz < ys.length:=by
      rw [Nat.div_lt_iff_lt_mul hs0]
      rw [← hnM.1]
      exact hq
     have hc:=hnM.2 (q / d.sz) _ (List.getElem?_eq_getElem hql)
     refine d.K_one (d.K_of_M hc) _ ?_
     rw [List.mem_iff_getElem?]
     refine ⟨q % d.sz,?_⟩
     rw [List.getElem?_take,if_pos (Nat.mod_lt _ hs0),List.getElem?_drop,Nat.mul_comm,Nat.div_add_mod,List.getElem?_eq_getElem hq]
    obtain ⟨v1,w1,hrun,h2,hg,hat⟩:=q_append (P:=P) W base t o.type e i0 z d.sz bytes ht hi hz0 hz1 hz2 hz hs0 v xs.length inner hown ad m c news (by rw [hnM.1,hm]) hnc hone (Nat.pos_of_ne_zero h0) (by simp only [maxLen];omega) hl hbase
    have hne:∀ k,some k ≠ v.ownBlock → k < W.heap.size → some k ≠ v1.ownBlock:=by
     intro k hk hlt
     rcases hat with hat|⟨b,hb,hle⟩
     ·rw [hat];exact hk
     ·rw [hb]
      intro he
      injection he with he
      omega
    have step:∀ {q:α} {c:List Value} {p:Nat → Prop},d.M W base p q c → (∀ k,p k → ok k ∧ some k ≠ v.ownBlock) → d.M w1 base (fun k=>ok k ∧ some k ≠ v1.ownBlock) q c:=by
     intro q c p hq hp
     have h1:=d.M_move (w1:=w1) (fun k hk=>hg.block k hk.2.2.1 (hp k hk.1).2) (d.M_bound hq)
     exact d.M_mono (fun k hk=>⟨(hp k hk.1).1,hne k (hp k hk.1).2 hk.2.2.1⟩) h1
    refine ⟨v1,w1,hrun,⟨fun k hk=>?_,inner ++ news,by rw [List.length_append,hm];exact h2,?_⟩,hg,hat⟩
    ·rcases hat with hat|⟨b,hb,hle⟩
     ·exact hok k (hat ▸ hk)
     ·rw [hb] at hk
      injection hk with hk
      exact hfresh k (by omega)
    ·exact reps_append (hr.imp_ (fun _ _ hq=>step hq (fun _ hk=>hk))) (hnM.imp_ (fun _ _ hq=>step hq hokp))
 obtain ⟨v1,w1,hr1,h1,hg,hat⟩:=hrun
 have hbelow:Below base w0 w1:=HB.grown hg hbase (fun k hk=>(q_typed hown k hk).1)
 refine wpList_plain hgd fun K hK=>?_
 unfold Oper.wp execOp
 simp only [ho,resolve,invoke,builtin,Sem.run_bind,Sem.run_pure,Result.andThen_ok,List.map_toArray,List.map_cons,List.map_nil,hs,hx,hr1]
 exact hK _ _ (h v1 w1 h1 hbelow hg hat)
end Kd
end Go.Proofs.YtnomeokicfpidaaW.PrintWords
namespace Go.Proofs.Ytnomeokicfpidaa.Q
open Go.RowKit Go.Proofs.YtnomeokicfpidaaW.PrintWords Go.Proofs.YtnomeokicfpidaaW.PrintLast Go.Proofs.YtnomeokicfpidaaW.PrintMore
attribute [local go_sem] max2_int min2_int max_two min_two max_three min_three max_four min_four
set_option linter.unusedVariables false
set_option linter.unusedSimpArgs false
def errW:Option Int → Value
 | none=>.nilIface
 | some c=>.iface 0 (.int .i64 c)
theorem errW_none:errW none = .nilIface:=rfl
theorem errW_some (c:Int):errW (some c) = .iface 0 (.int .i64 c):=rfl
theorem info3:(Try.prog.info? 3).map (fun i=>(i.zero,i.size,i.bytes)) = some (some (.int .i64 0),1,8):=by kernel_rfl
theorem info29:(Try.prog.info? 29).map (fun i=>(i.zero,i.size,i.bytes)) = some (some (.int .u32 0),1,4):=by kernel_rfl
def rd_L2 (xs:List (List Int)) (i:Int):(List Int):=xs.getD i.toNat ([]:List Int)
theorem at_L2 {w:World} {A:Option Addr} {n:Nat} {xs:List (List Int)} (h:Kd.C (Kd.slice 3 (Kd.int .i64)) w A n xs) (i:Int) (h0:0 ≤ i) (h1:i < n):∃ ad A0 c0,A = some ad ∧ w.cell? (ad.add i.toNat) = some (.slice A0 (rd_L2 xs i).length c0) ∧ (rd_L2 xs i).length ≤ c0 ∧ (Kd.int .i64).C w A0 (rd_L2 xs i).length (rd_L2 xs i):=by
 obtain ⟨ad,c,e,_,hK,hc0⟩:=Kd.C_get h ([]:List Int) i h0 h1
 have hc:∀ j u,c[j]? = some u → w.cell? (ad.add (i.toNat * 1 + j)) = some u:=hc0
 obtain ⟨A0,c0,rfl,l0,g0⟩:=hK
 exact ⟨ad,A0,c0,e,by have hq:=hc 0 _ rfl;rwa [Nat.mul_one,Nat.add_zero] at hq,l0,g0⟩
def q11.f (a0:Int) (a1:Int):Option (Int):=if a1 < 1 then (some 0) else (if a1 = 0 then (none) else (if (Int.tmod a0 a1) < 0 then (some (wrap64 ((Int.tmod a0 a1) + a1))) else (some (Int.tmod a0 a1))))
set_option maxHeartbeats 8000000 in
set_option maxRecDepth 100000 in
theorem q11.calls (a0:Int) (a1:Int) (r:Int) (w:World) (h:q11.f a0 a1 = some r) :
  Calls Try.prog 19 #[.int .i64 a0,.int .i64 a1] w fun e w'=>e = .returned (.int .i64 r) ∧ Drawn0 w w':=by
 have H:(if a1 < 1 then (some 0) else (if a1 = 0 then (none) else (if (Int.tmod a0 a1) < 0 then (some (wrap64 ((Int.tmod a0 a1) + a1))) else (some (Int.tmod a0 a1))))) = some r:=h
 clear h
 by_cases c3:a1 < 1
 ·rw [if_pos c3] at H
  have c3b0:decide (a1 < 1) = true:=decide_eq_true c3
  clear c3
  obtain rfl:=Option.some.inj H
  go_enter Try.func19,Try.ntmps19
  go_wp2
  go_ret
  exact ⟨by first|rfl|(simp;done)|(simp [*];done),by repeat (first|exact Drawn0.refl _|apply Drawn0.step)⟩
 ·rw [if_neg c3] at H
  have c3b0:decide (a1 < 1) = false:=decide_eq_false c3
  clear c3
  by_cases c4:a1 = 0
  ·rw [if_pos c4] at H
   exact absurd H (by simp)
  ·rw [if_neg c4] at H
   have c4b0:(a1 == 0) = false:=beq_eq_false_iff_ne.mpr c4
   have c4b1:(a1 != 0) = true:=bne_iff_ne.mpr c4
   by_cases c5:(Int.tmod a0 a1) < 0
   ·rw [if_pos c5] at H
    have c5b0:decide ((Int.tmod a0 a1) < 0) = true:=decide_eq_true c5
    clear c5
    obtain rfl:=Option.some.inj H
    go_enter Try.func19,Try.ntmps19
    go_wp2
    go_ret
    exact ⟨by first|rfl|(simp;done)|(simp [*];done),by repeat (first|exact Drawn0.refl _|apply Drawn0.step)⟩
   ·rw [if_neg c5] at H
    have c5b0:decide ((Int.tmod a0 a1) < 0) = false:=decide_eq_false c5
    clear c5
    obtain rfl:=Option.some.inj H
    go_enter Try.func19,Try.ntmps19
    go_wp2
    go_ret
    exact ⟨by first|rfl|(simp;done)|(simp [*];done),by repeat (first|exact Drawn0.refl _|apply Drawn0.step)⟩
def q6.f (l0:List Int):Option (List Int):=if ([]:List Int).length + l0.length < 17592186044416 then (some (([]:List Int) ++ l0)) else (none)
set_option maxHeartbeats 8000000 in
set_option maxRecDepth 100000 in
theorem q6.calls (A0:Option Addr) (c0:Nat) (l0:List Int) (r:List Int) (w:World) (hr0:Kd.C (Kd.int .i64) w A0 l0.length l0) (hc0:l0.length ≤ c0) (h:q6.f l0 = some r) :
  Calls Try.prog 42 #[.slice A0 l0.length c0] w fun e w'=>∃ v0_:Value,e = .returned (v0_) ∧ Kd.R (Kd.int .i64) 3 w' w.heap.size (fun _=>True) v0_ r ∧ Below w.heap.size w w':=by
 have HR0:=Aside0.mk hr0
 have HC0:=Aside0.mk hc0
 clear hr0 hc0
 have HB:=zk (Below.refl w.heap.size w)
 have H:(if ([]:List Int).length + l0.length < 17592186044416 then (some (([]:List Int) ++ l0)) else (none)) = some r:=h
 clear h
 by_cases c2:([]:List Int).length + l0.length < 17592186044416
 ·rw [if_pos c2] at H
  have LMc2:=Aside0.mk c2
  clear c2
  obtain ⟨y101,hy101⟩:∃ y_:List Int,y_ = (([]:List Int) ++ l0):=⟨_,rfl⟩
  replace H:(some y101) = some r:=by first|(rw [hy101];with_reducible exact H)|(have H2_:=(Option.bind_some _ _).symm.trans H;rw [hy101];with_reducible exact H2_)|(have H2_:=(Option.bind_some _ _).symm.trans H;with_reducible exact H2_)|with_reducible exact H|(rw [hy101];exact H)|exact H
  have Ny101:=Aside0.mk hy101
  clear hy101
  obtain rfl:=Option.some.inj H
  go_enter Try.func42,Try.ntmps42
  go_wp2_with (first|((with_reducible refine gate_builtin (b:=.append) (xs:=#[.const (.slice none 0 0),.tmp 3]) rfl ?_);at_builtin;refine Kd.R_append_rows (Kd.int .i64) (w0:=w) w.heap.size rfl (.const (.slice none 0 0)) (.tmp 3) 22 3 (.int .i64 0) 8 rfl Try.underlying22 info3 rfl (by decide) (by omega) (.slice none 0 0) ([]:List Int) l0 _ _ _ (fun _=>True) (fun _=>False) rfl rfl ?aO ?aR (fun _ _ h=>h) (fun _ h=>h.elim) ?aF ?aB ?aS ?aL ?_;(case aR=>exact cq HR0.out);(case aB=>exact (bq HB.out));(case aF=>exact (fun _ _=>trivial));(case aO=>exact ((Kd.R_nil _ _ _ _ (fun _=>True))));(case aS=>exact (below_size (bq HB.out)));(case aL=>have:=LMc2.out;omega);intro v102 w3 ho hb hg hat;rw [← Ny101.out] at ho;have n0_:=zk (hb);have n1_:=zk (ho);clear HB;have HB:=n0_;have HO103:=n1_;clear n0_ n1_;clear ho hb hg hat))
  go_ret
  exact ⟨_,by first|rfl|(simp [errW_none,errW_some] <;> rfl)|(simp [*,errW_none,errW_some] <;> rfl),rq HO103.out,bq HB.out⟩
 ·rw [if_neg c2] at H
  exact absurd H (by simp)
end Go.Proofs.Ytnomeokicfpidaa.Q
