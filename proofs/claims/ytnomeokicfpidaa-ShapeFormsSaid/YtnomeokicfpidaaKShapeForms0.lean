-- merged and slimmed by slim.py (a program of this repo)
import Derived.Test.YtnomeokicfpidaaWMore
import Derived.Test.YtnomeokicfpidaaShelf
import Derived.Test.YtnomeokicfpidaaWTab
import Derived.Test.YtnomeokicfpidaaWRepsOne
import Derived.Test.YtnomeokicfpidaaWGuard
import Derived.Great.BuildSlice
namespace Go.Proofs.YtnomeokicfpidaaW.PrintWords
open Go.RowKit
set_option linter.unusedVariables false
universe u
class St (w w' : World):Prop where
  b:∀ {w0:World},Below w0.heap.size w0 w → Below w0.heap.size w0 w'
  h:∀ {g:Nat} {o:Obj},w.heap[g]? = some o → w'.heap[g]? = some o
  r:∀ {α:Type} {d:Kd α} {e base:Nat} {ok:Nat → Prop} {v:Value} {xs:List α},d.R e w base ok v xs → d.R e w' base ok v xs
  c:∀ {α:Type} {d:Kd α} {A:Option Addr} {n:Nat} {xs:List α},d.C w A n xs → d.C w' A n xs
instance St.refl (w:World):St w w:=⟨id,id,id,id⟩
instance St.alloc (w w' : World) (o:Obj) [i:St w w']:St w (w'.alloc o):=⟨fun h=>below_alloc (i.b h) o,fun h=>blk_alloc (i.h h) o,fun h=>Kd.R_alloc (i.r h) o,fun h=>Kd.C_alloc (i.c h) o⟩
instance St.drewN (w w' : World) (n:Nat) [i:St w w']:St w (w'.drewN n):=⟨fun h=>pw_below_drewN (i.b h) n,fun h=>blk_drewN (i.h h) n,fun h=>Kd.R_drewN (i.r h) n,fun h=>Kd.C_drewN (i.c h) n⟩
instance St.drew (w w' : World) [i:St w w']:St w w'.drew:=⟨fun h=>below_drew1 (i.b h),fun h=>blk_drew (i.h h),fun h=>Kd.R_drew (i.r h),fun h=>Kd.C_drew (i.c h)⟩
theorem bq {w0 w w' : World} (h:Below w0.heap.size w0 w) [i:St w w']:Below w0.heap.size w0 w':=i.b h
theorem hq {w w' : World} {g:Nat} {o:Obj} (h:w.heap[g]? = some o) [i:St w w']:w'.heap[g]? = some o:=i.h h
theorem rq {w w' : World} {α:Type} {d:Kd α} {e base:Nat} {ok:Nat → Prop} {v:Value} {xs:List α} (h:d.R e w base ok v xs) [i:St w w']:d.R e w' base ok v xs:=i.r h
theorem cq {w w' : World} {α:Type} {d:Kd α} {A:Option Addr} {n:Nat} {xs:List α} (h:d.C w A n xs) [i:St w w']:d.C w' A n xs:=i.c h
class Sg (g g' : Nat) (w w' : World):Prop where
  b:∀ {w0:World},w0.heap.size ≤ g → w0.heap.size ≤ g' → Below w0.heap.size w0 w → Below w0.heap.size w0 w'
instance Sg.refl (g g' : Nat) (w:World):Sg g g' w w:=⟨fun _ _ h=>h⟩
instance Sg.alloc (g g' : Nat) (w w' : World) (o:Obj) [i:Sg g g' w w']:Sg g g' w (w'.alloc o):=⟨fun a b h=>below_alloc (i.b a b h) o⟩
instance Sg.drewN (g g' : Nat) (w w' : World) (n:Nat) [i:Sg g g' w w']:Sg g g' w (w'.drewN n):=⟨fun a b h=>pw_below_drewN (i.b a b h) n⟩
instance Sg.drew (g g' : Nat) (w w' : World) [i:Sg g g' w w']:Sg g g' w w'.drew:=⟨fun a b h=>below_drew1 (i.b a b h)⟩
instance Sg.set1 (g g' j:Nat) (v:Value) (w w' : World) [i:Sg g g' w w']:Sg g g' w (w'.setCell ⟨g,j,none⟩ v):=⟨fun a b h=>below_set (i.b a b h) a⟩
instance Sg.set2 (g g' j:Nat) (v:Value) (w w' : World) [i:Sg g g' w w']:Sg g g' w (w'.setCell ⟨g',j,none⟩ v):=⟨fun a b h=>below_set (i.b a b h) b⟩
theorem bg {w0 w w' : World} {g g' : Nat} (h:Below w0.heap.size w0 w) (a:Aside0 (w0.heap.size ≤ g)) (b:Aside0 (w0.heap.size ≤ g')) [i:Sg g g' w w']:Below w0.heap.size w0 w':=i.b a.out b.out h
theorem zk {p:Prop} (h:p):Aside0 p:=⟨h⟩
theorem oA {p:Prop} [Decidable p] (h:decide p = true:=by first|(with_reducible assumption)|assumption):p:=of_decide_eq_true h
theorem oE {α:Sort u} {a b:α} (h:a = b:=by first|rfl|(simp;done)|(simp [*];done)):a = b:=h
theorem oF {α:Sort u} {a b:α} (h:a = b:=by first|done|rfl|((try simp only [List.map_toArray,List.map_cons,List.map_nil]);first|done|rfl|(simp only [List.length_drop,List.length_take];rfl))):a = b:=h
theorem oD {p:Prop} [Decidable p] (h:decide p = true):p:=of_decide_eq_true h
end Go.Proofs.YtnomeokicfpidaaW.PrintWords
namespace Go.Proofs.Ytnomeokicfpidaa.Q
open Go.RowKit Go.Proofs.YtnomeokicfpidaaW.PrintWords Go.Proofs.YtnomeokicfpidaaW.PrintLast Go.Proofs.YtnomeokicfpidaaW.PrintMore
attribute [local go_sem] max2_int min2_int max_two min_two max_three min_three max_four min_four
set_option linter.unusedVariables false
set_option linter.unusedSimpArgs false
def errW:Option Int → Value
 | none=>.nilIface
 | some c=>.iface 0 (.int .i64 c)
theorem errW_none:errW none = .nilIface:=rfl
theorem errW_some (c:Int):errW (some c) = .iface 0 (.int .i64 c):=rfl
theorem info3:(Try.prog.info? 3).map (fun i=>(i.zero,i.size,i.bytes)) = some (some (.int .i64 0),1,8):=by kernel_rfl
end Go.Proofs.Ytnomeokicfpidaa.Q
namespace Go.Proofs.Ytnomeokicfpidaa.FM
open Go.RowKit Go.Proofs.YtnomeokicfpidaaW.PrintWords Go.Proofs.YtnomeokicfpidaaW.PrintLast Go.Proofs.YtnomeokicfpidaaW.PrintMore Go.Proofs.Ytnomeokicfpidaa.Q
set_option linter.unusedVariables false
set_option linter.unusedSimpArgs false
def unl (L:Array Bool):Nat:=L.toList.countP (fun b=>!b)
theorem unl_set {L:Array Bool} {i:Nat} (h:L.getD i true = false):unl (L.setIfInBounds i true) + 1 = unl L:=by
 obtain ⟨l⟩:=L
 unfold unl
 have hl:i < l.length:=by
  rcases Nat.lt_or_ge i l.length with h'|h'
  ·exact h'
  ·simp [List.getElem?_eq_none h'] at h
 have hv:l[i] = false:=by simpa [hl] using h
 simp only [List.setIfInBounds_toArray]
 clear h
 induction l generalizing i with
 | nil=>simp at hl
 | cons b l ih =>
  cases i with
  | zero=>simp at hv;subst hv;simp
  | succ i =>
   simp only [List.length_cons,Nat.add_lt_add_iff_right] at hl
   simp only [List.getElem_cons_succ] at hv
   have:=ih hl hv
   simp only [List.set_cons_succ,List.countP_cons]
   omega
theorem wpAny_inv {P:Program} {ops:Array Oper} {Q:Exit → Act → World → Prop} {md:Region.Mode} (I:Array Bool → Act → World → Prop)
  (hstep:∀ L a w i,I L a w → i ∈ Region.ready md ops L → wpOp P ops Q i (I (L.setIfInBounds i true)) a w)
  (hdone:∀ L a w,I L a w → Region.ready md ops L = [] → Q .normal a w) :
  ∀ (fuel:Nat) (L:Array Bool) (a:Act) (w:World),unl L ≤ fuel → I L a w → wpAny P md ops Q fuel L a w
 | 0,L,a,w,hf,hI=>by
  have hr:Region.ready md ops L = []:=by
   cases hr:Region.ready md ops L with
   | nil=>rfl
   | cons i r =>
    have:=unl_set (mem_ready.1 (show i ∈ Region.ready md ops L by rw [hr];simp)).1
    omega
  exact ⟨hr,hdone L a w hI hr⟩
 | fuel + 1,L,a,w,hf,hI =>
  ⟨hdone L a w hI,fun i hi=>wpOp_mono (fun a' w' h=>wpAny_inv I hstep hdone fuel _ a' w' (by have:=unl_set (mem_ready.1 hi).1;omega) h) (hstep L a w i hI hi)⟩
def Row (w:World) (v:Value) (l:List Int):Prop:=∃ A,v = .slice A l.length l.length ∧ Kd.C (Kd.int .i64) w A l.length l
theorem Row.below {w w1:World} {v:Value} {l:List Int} (h:Row w v l) (hb:Below w.heap.size w w1):Row w1 v l:=by
 obtain ⟨A,e,hc⟩:=h
 exact ⟨A,e,Kd.C_below hc hb⟩
theorem Row.nil (w:World):Row w (.slice none 0 0) []:=⟨none,rfl,rfl,by decide,fun h=>by cases h⟩
theorem Row.blk {w:World} {g:Nat} {l:List Int} {t:TypeId} (h:w.heap[g]? = some (.cells (nums .i64 l).toArray t (0,0))) (hl:l.length ≤ 1000):Row w (.slice (some ⟨g,0,none⟩) l.length l.length) l:=by
 refine ⟨_,rfl,rfl,by omega,fun _=>⟨_,rfl,fun j p hj=>⟨[.int .i64 p],rfl,rfl,fun i u hu=>?_⟩⟩⟩
 have hi:i = 0:=by
  cases i with
  | zero=>rfl
  | succ i=>simp at hu
 subst hi
 have hu:u = .int .i64 p:=by simpa using hu.symm
 subst hu
 rw [add_plain,blk_cell h]
 simp [nums,Kd.int,Kd.scalar,hj]
def Shp (w:World) (v:Value) (p:List Int × List Int):Prop:=∃ k q,v = .agg #[k,q] ∧ Row w k p.1 ∧ Row w q p.2
theorem Shp.below {w w1:World} {v:Value} {p:List Int × List Int} (h:Shp w v p) (hb:Below w.heap.size w w1):Shp w1 v p:=by
 obtain ⟨k,q,e,h1,h2⟩:=h
 exact ⟨k,q,e,h1.below hb,h2.below hb⟩
def All (w:World) (v:Value) (ps:List (List Int × List Int)):Prop :=
 ∃ g cs,v = .slice (some ⟨g,0,none⟩) ps.length ps.length ∧ w.heap[g]? = some (.cells cs 24 (0,0)) ∧ ∀ j p,ps[j]? = some p → ∃ k q,cs[2 * j]? = some k ∧ cs[2 * j + 1]? = some q ∧ Row w k p.1 ∧ Row w q p.2
theorem All.below {w w1:World} {v:Value} {ps:List (List Int × List Int)} (h:All w v ps) (hb:Below w.heap.size w w1):All w1 v ps:=by
 obtain ⟨g,cs,e,hg,h⟩:=h
 refine ⟨g,cs,e,blk_below hg hb,fun j p hj=>?_⟩
 obtain ⟨k,q,h1,h2,h3,h4⟩:=h j p hj
 exact ⟨k,q,h1,h2,h3.below hb,h4.below hb⟩
inductive Sp
 | row (l:List Int)
 | shp (p:List Int × List Int)
 | int (x:Int)
 | all (ps:List (List Int × List Int))
def Sp.ok:Sp → World → Value → Prop
 | .row l,w,v=>Row w v l
 | .shp p,w,v=>Shp w v p
 | .int x,_,v=>v = .int .i64 x
 | .all ps,w,v=>All w v ps
theorem Sp.ok_below {s:Sp} {w w1:World} {v:Value} (h:s.ok w v) (hb:Below w.heap.size w w1):s.ok w1 v:=by
 cases s with
 | row l=>exact Row.below h hb
 | shp p=>exact Shp.below h hb
 | int x=>exact h
 | all ps=>exact All.below h hb
def none12 (n:Int):List (List Int × List Int) :=
 [([],[]),([1],[]),([1],[0]),([n + 3],[-1]),([0],[-1]),([1,1],[1,-1]),([3],[-1]),([1,3],[-1,0]),([2,1,4],[-1,0,0]),([1,1,3,1],[-1,0,0,2]),([1,1],[-1,-n]),(List.replicate 25 0,List.replicate 25 0)]
def sps (n:Int):List Sp :=
 [.shp ([],[]),.row [1],.shp ([1],[]),.row [1],.row [0],.shp ([1],[0]),.int n,.int (n + 3),.row [n + 3],.row [-1],.shp ([n + 3],[-1]),.row [0],.row [-1],.shp ([0],[-1]),.row [1,1],.row [1,-1],.shp ([1,1],[1,-1]),.row [3],.row [-1],.shp ([3],[-1]),.row [1,3],.row [-1,0],.shp ([1,3],[-1,0]),.row [2,1,4],.row [-1,0,0],.shp ([2,1,4],[-1,0,0]),.row [1,1,3,1],.row [-1,0,0,2],.shp ([1,1,3,1],[-1,0,0,2]),.row [1,1],.int n,.int (-n),.row [-1,-n],.shp ([1,1],[-1,-n]),.row (List.replicate 25 0),.row (List.replicate 25 0),.shp (List.replicate 25 0,List.replicate 25 0),.all (none12 n),.int 12,.int 0]
structure Inv (n:Int) (w0:World) (pre post:List Value) (L:Array Bool) (a:Act) (w:World):Prop where
 sz:L.size = 40
 act:∃ vs:List Value,vs.length = 40 ∧ a = ⟨(pre ++ (vs ++ post)).toArray,[]⟩ ∧ ∀ i s,(sps n)[i]? = some s → L.getD i false = true → s.ok w (vs.getD i undef)
 below:Below w0.heap.size w0 w
theorem Inv.put {n:Int} {w0:World} {pre post:List Value} {L:Array Bool} {a:Act} {w w' : World} (h:Inv n w0 pre post L a w) (hp:pre.length = 11) {i d:Nat} (hi:i < 40) (hd:d = 11 + i) (hb:Below w.heap.size w w') (v:Value)
  (hv:∀ s,(sps n)[i]? = some s → s.ok w' v):Inv n w0 pre post (L.setIfInBounds i true) (a.put (some d) v) w':=by
 obtain ⟨h1,⟨vs,hl,rfl,hs⟩,h3⟩:=h
 subst hd
 refine ⟨by simp [h1],⟨vs.set i v,by simp [hl],?_,fun j s hj hL=>?_⟩,h3.trans (hb.mono h3.size)⟩
 ·simp only [Act.put,List.setIfInBounds_toArray]
  congr 2
  rw [List.set_append_right _ _ (by omega),List.set_append_left _ _ (by omega)]
  congr 3
  omega
 ·by_cases hji:j = i
  ·subst hji
   have:(vs.set j v).getD j undef = v:=by simp [List.getD_eq_getElem?_getD,hl,hi]
   rw [this]
   exact hv s hj
  ·have e1:(vs.set i v).getD j undef = vs.getD j undef:=by simp [List.getD_eq_getElem?_getD,List.getElem?_set_ne (Ne.symm hji)]
   have e2:L.getD j false = true:=by
    have hij:i ≠ j:=Ne.symm hji
    simpa [Array.getD_eq_getD_getElem?,Array.getElem?_setIfInBounds_ne hij] using hL
   rw [e1]
   exact Sp.ok_below (hs j s hj e2) hb
theorem Inv.slot {n:Int} {w0:World} {pre post:List Value} {L:Array Bool} {a:Act} {w:World} (h:Inv n w0 pre post L a w) (hp:pre.length = 11) {i d:Nat} (hd:d = 11 + i) (hL:L.getD i false = true) {s:Sp} (hs:(sps n)[i]? = some s):s.ok w (a.eval (.tmp d)):=by
 obtain ⟨h1,⟨vs,hl,rfl,h2⟩,h3⟩:=h
 subst hd
 have hi:i < 40:=by
  have:i < (sps n).length:=(List.getElem?_eq_some_iff.1 hs).1
  exact this
 have:=h2 i s hs hL
 have e:(Act.eval ⟨(pre ++ (vs ++ post)).toArray,[]⟩ (.tmp (11 + i))) = vs.getD i undef:=by
  simp only [Act.eval,Array.getD_eq_getD_getElem?,List.getElem?_toArray,List.getD_eq_getElem?_getD]
  rw [List.getElem?_append_right (by omega),List.getElem?_append_left (by omega)]
  congr 2
  omega
 rw [e]
 exact this
theorem Inv.pre {n:Int} {w0:World} {pre post:List Value} {L:Array Bool} {a:Act} {w:World} (h:Inv n w0 pre post L a w) {d:Nat} (hd:d < pre.length):a.eval (.tmp d) = pre.getD d undef:=by
 obtain ⟨h1,⟨vs,hl,rfl,h2⟩,h3⟩:=h
 simp only [Act.eval,Array.getD_eq_getD_getElem?,List.getElem?_toArray,List.getD_eq_getElem?_getD]
 rw [List.getElem?_append_left (by omega)]
end Go.Proofs.Ytnomeokicfpidaa.FM
namespace Go.Proofs.Ytnomeokicfpidaa.Q
open Go.RowKit Go.Proofs.YtnomeokicfpidaaW.PrintWords Go.Proofs.YtnomeokicfpidaaW.PrintLast Go.Proofs.YtnomeokicfpidaaW.PrintMore
attribute [local go_sem] max2_int min2_int max_two min_two max_three min_three max_four min_four
set_option linter.unusedVariables false
set_option linter.unusedSimpArgs false
def q5.f (a0:Int) (a1:Int):Option (Int):=if a1 < 1 then (some 0) else (if a1 = 0 then (none) else (if (Int.tmod a0 a1) < 0 then (some (wrap64 ((Int.tmod a0 a1) + a1))) else (some (Int.tmod a0 a1))))
set_option maxHeartbeats 8000000 in
set_option maxRecDepth 100000 in
theorem q5.calls (a0:Int) (a1:Int) (r:Int) (w:World) (h:q5.f a0 a1 = some r) :
  Calls Try.prog 19 #[.int .i64 a0,.int .i64 a1] w fun e w'=>e = .returned (.int .i64 r) ∧ Drawn0 w w':=by
 have H:(if a1 < 1 then (some 0) else (if a1 = 0 then (none) else (if (Int.tmod a0 a1) < 0 then (some (wrap64 ((Int.tmod a0 a1) + a1))) else (some (Int.tmod a0 a1))))) = some r:=h
 clear h
 by_cases c3:a1 < 1
 ·rw [if_pos c3] at H
  have c3b0:decide (a1 < 1) = true:=decide_eq_true c3
  clear c3
  obtain rfl:=Option.some.inj H
  go_enter Try.func19,Try.ntmps19
  go_wp2
  go_ret
  exact ⟨by first|rfl|(simp;done)|(simp [*];done),by repeat (first|exact Drawn0.refl _|apply Drawn0.step)⟩
 ·rw [if_neg c3] at H
  have c3b0:decide (a1 < 1) = false:=decide_eq_false c3
  clear c3
  by_cases c4:a1 = 0
  ·rw [if_pos c4] at H
   exact absurd H (by simp)
  ·rw [if_neg c4] at H
   have c4b0:(a1 == 0) = false:=beq_eq_false_iff_ne.mpr c4
   have c4b1:(a1 != 0) = true:=bne_iff_ne.mpr c4
   by_cases c5:(Int.tmod a0 a1) < 0
   ·rw [if_pos c5] at H
    have c5b0:decide ((Int.tmod a0 a1) < 0) = true:=decide_eq_true c5
    clear c5
    obtain rfl:=Option.some.inj H
    go_enter Try.func19,Try.ntmps19
    go_wp2
    go_ret
    exact ⟨by first|rfl|(simp;done)|(simp [*];done),by repeat (first|exact Drawn0.refl _|apply Drawn0.step)⟩
   ·rw [if_neg c5] at H
    have c5b0:decide ((Int.tmod a0 a1) < 0) = false:=decide_eq_false c5
    clear c5
    obtain rfl:=Option.some.inj H
    go_enter Try.func19,Try.ntmps19
    go_wp2
    go_ret
    exact ⟨by first|rfl|(simp;done)|(simp [*];done),by repeat (first|exact Drawn0.refl _|apply Drawn0.step)⟩
def q10.l0:Nat → Int → List Int → List Int → Int → Int → Option (List Int)
 | 0,_,_,_,_,_=>none
 | k + 1,x1,x5,x9,x10,x11=>if x11 < x10 then (if 0 ≤ x11 then (if x11 < (x9.length:Int) then (if (rd x9 x11) = x1 then (if x5.length < 17592186044416 then (q10.l0 k x1 (x5 ++ [x11]) x9 x10 (wrap64 (x11 + 1))) else (none)) else (q10.l0 k x1 x5 x9 x10 (wrap64 (x11 + 1)))) else (none)) else (none)) else (some x5)
def q10.f (k:Nat) (l0_0:List Int) (l0_1:List Int) (a1:Int):Option (List Int):=q10.l0 k a1 ([]:List Int) l0_1 (l0_1.length:Int) 0
theorem q10.mono_l:∀ k,(∀ y0 y1 y2 y3 y4,LeO (q10.l0 k y0 y1 y2 y3 y4) (q10.l0 (k + 1) y0 y1 y2 y3 y4))
 | 0=>fun _ _ _ _ _ r h=>by simp [q10.l0] at h
 | k + 1=>by
  have ih0:=q10.mono_l k
  ·intro y0 y1 y2 y3 y4
   unfold q10.l0
   repeat' first
   | (with_reducible exact ih0 _ _ _ _ _)
   | (with_reducible exact LeO.refl _)
   | (with_reducible exact LeO.none _)
   | (with_reducible refine LeO.ite ?_ ?_)
   | (with_reducible refine LeO.bind ?_ (fun _=>?_))
   | exact ih0 _ _ _ _ _
   | exact LeO.none _
   | refine LeO.ite ?_ ?_
   | refine LeO.bind ?_ (fun _=>?_)
theorem q10.mono:∀ a0 a1 a2 k,LeO (q10.f k a0 a1 a2) (q10.f (k + 1) a0 a1 a2):=by
 intro a0 a1 a2 k
 have ih0:=q10.mono_l k
 unfold q10.f
 repeat' first
   | (with_reducible exact ih0 _ _ _ _ _)
   | (with_reducible exact LeO.refl _)
   | (with_reducible exact LeO.none _)
   | (with_reducible refine LeO.ite ?_ ?_)
   | (with_reducible refine LeO.bind ?_ (fun _=>?_))
   | exact ih0 _ _ _ _ _
   | exact LeO.none _
   | refine LeO.ite ?_ ?_
   | refine LeO.bind ?_ (fun _=>?_)
set_option maxHeartbeats 8000000 in
set_option maxRecDepth 100000 in
theorem q10.calls (k:Nat) (A0_0:Option Addr) (c0_0:Nat) (l0_0:List Int) (A0_1:Option Addr) (c0_1:Nat) (l0_1:List Int) (a1:Int) (r:List Int) (w:World) (hr0_0:Kd.C (Kd.int .i64) w A0_0 l0_0.length l0_0) (hc0_0:l0_0.length ≤ c0_0) (hr0_1:Kd.C (Kd.int .i64) w A0_1 l0_1.length l0_1) (hc0_1:l0_1.length ≤ c0_1) (h:q10.f k l0_0 l0_1 a1 = some r) :
  Calls Try.prog 25 #[.agg #[.slice A0_0 l0_0.length c0_0,.slice A0_1 l0_1.length c0_1],.int .i64 a1] w fun e w'=>∃ v0_:Value,e = .returned (v0_) ∧ Kd.R (Kd.int .i64) 3 w' w.heap.size (fun _=>True) v0_ r ∧ Below w.heap.size w w':=by
 have hu24:=Try.underlying24
 have HR0_0:=Aside0.mk hr0_0
 have HC0_0:=Aside0.mk hc0_0
 clear hr0_0 hc0_0
 have HR0_1:=Aside0.mk hr0_1
 have HC0_1:=Aside0.mk hc0_1
 clear hr0_1 hc0_1
 have HB:=zk (Below.refl w.heap.size w)
 have H:(q10.l0 k a1 ([]:List Int) l0_1 (l0_1.length:Int) 0) = some r:=h
 clear h
 have H':=Aside0.mk H
 clear H
 go_enter Try.func25,Try.ntmps25
 go_wp2_with (first|((with_reducible refine gate_dst (N:=2) rfl ?_);refine box_event ?hg (N:=2) ?hd (cs:=#[.slice A0_0 l0_0.length c0_0,.slice A0_1 l0_1.length c0_1]) (t:=24) ?hr ?_;(case hd=>rfl);(case hg=>rfl);(case hr=>first|(go_simp;done)|(go_simp;rfl));intro gb101 hg w3 hbox hb;have n0_:=zk (below_step (bq HB.out) hb);have n1_:=zk (hbox);have n2_:=zk ((by rw [hg];exact (below_size (bq HB.out)):w.heap.size ≤ gb101));have n3_:=zk ((by rw [hg];exact (below_size (bq HB.out)):w.heap.size ≤ gb101));clear HB;have HB:=n0_;have BK101:=n1_;have GW101:=n2_;have GE101:=n3_;clear n0_ n1_ n2_ n3_;clear hb hbox hg;have hcz4_0:w3.cell? ⟨gb101,0,none⟩ = some (.slice A0_0 l0_0.length c0_0):=(blk_cell BK101.out 0).trans rfl;have hcz4_1:w3.cell? ⟨gb101,1,none⟩ = some (.slice A0_1 l0_1.length c0_1):=(blk_cell BK101.out 1).trans rfl;have hfz4_0:=blk_frozen BK101.out 0;have hfz4_1:=blk_frozen BK101.out 1))
 go_loopg [5,11] k (fun kq v5 v11 w'=>∃ (x5_1:List Int) (x11_1:Int),v11 = .int .i64 x11_1 ∧ Aside0 (q10.l0 kq a1 x5_1 l0_1 (l0_1.length:Int) x11_1 = some r) ∧ Aside0 (kq ≤ k) ∧ Aside0 (Kd.R (Kd.int .i64) 3 w' w.heap.size (fun _=>True) v5 x5_1) ∧ Aside0 (w'.heap[gb101]? = some (.cells #[(.slice A0_0 l0_0.length c0_0),(.slice A0_1 l0_1.length c0_1)] 24 (0,0))) ∧ Aside0 (Below w.heap.size w w'))
 case atStart=>exact ⟨(([]:List Int)),(0),oE,H',⟨Nat.le_refl _⟩,⟨by first|exact Kd.R_nil _ _ _ _ _|exact Kd.N_nil _ _ _ _ _|exact Kd.V_nil _ _ _ _ _|exact Kd.Q_nil _ _ _ _ _|exact Kd.S_nil _ _ _ _ _⟩,⟨hq BK101.out⟩,⟨bg HB.out GE101 GE101⟩⟩
 case round =>
  clear H'
  try clear c2
  try clear p2
  try clear hcz4_0
  try clear hcz4_1
  try clear hfz4_0
  try clear hfz4_1
  obtain ⟨x5_1,x11_1,rfl,HA,HK1,HO_5,BK101,HB⟩:=hrel
  cases gk with
  | zero=>exact absurd HA.out (by simp [q10.l0])
  | succ k1 =>
   have H:=HA.out
   clear HA
   simp only [q10.l0] at H
   by_cases c5:x11_1 < (l0_1.length:Int)
   ·rw [if_pos c5] at H
    have c5b0:decide (x11_1 < (l0_1.length:Int)) = true:=decide_eq_true c5
    clear c5
    by_cases c6:0 ≤ x11_1
    ·rw [if_pos c6] at H
     have c6b0:decide (0 ≤ x11_1) = true:=decide_eq_true c6
     clear c6
     by_cases c7:x11_1 < (l0_1.length:Int)
     ·rw [if_pos c7] at H
      have c7b0:decide (x11_1 < (l0_1.length:Int)) = true:=decide_eq_true c7
      clear c7
      by_cases c8:(rd l0_1 x11_1) = a1
      ·rw [if_pos c8] at H
       have c8b0:((rd l0_1 x11_1) == a1) = true:=beq_iff_eq.mpr c8
       have c8b1:((rd l0_1 x11_1) != a1) = false:=bne_eq_false_iff_eq.mpr c8
       clear c8
       by_cases c9:x5_1.length < 17592186044416
       ·rw [if_pos c9] at H
        have LMc9:=Aside0.mk c9
        clear c9
        obtain ⟨y103,hy103⟩:∃ y_:List Int,y_ = (x5_1 ++ [x11_1]):=⟨_,rfl⟩
        replace H:(q10.l0 k1 a1 y103 l0_1 (l0_1.length:Int) (wrap64 (x11_1 + 1))) = some r:=by first|(rw [hy103];with_reducible exact H)|(have H2_:=(Option.bind_some _ _).symm.trans H;rw [hy103];with_reducible exact H2_)|(have H2_:=(Option.bind_some _ _).symm.trans H;with_reducible exact H2_)|with_reducible exact H|(rw [hy103];exact H)|exact H
        have Ny103:=Aside0.mk hy103
        clear hy103
        have H':=Aside0.mk H
        clear H
        have p102:0 ≤ (x11_1:Int):=oA
        have q102:x11_1 < (l0_1.length:Int):=oA
        obtain ⟨ad102,e102,hx102_0⟩:=Kd.at_int HR0_1.out x11_1 p102 q102
        cases e102
        replace hx102_0:=(HB.out.cell (World.block_lt_of_cell? w _ hx102_0)).trans hx102_0
        replace p102:=eq_true p102
        replace q102:=eq_true q102
        go_wp2_with (first|((with_reducible refine gate_builtin (b:=.append) (xs:=#[.tmp 19,.tmp 21]) rfl ?_);at_builtin;refine Kd.R_append (Kd.int .i64) (w0:=w) w.heap.size rfl (.tmp 19) (.tmp 21) 22 3 (.int .i64 0) 8 rfl Try.underlying22 info3 rfl (by decide) (by omega) u5 x5_1 x11_1 [.int .i64 x11_1] (fun _=>True) (fun _=>False) rfl rfl ?aP (fun _ hk=>hk.elim) ?aF ?aO ?aB ?aS ?aL ?_;(case aP=>exact rfl);(case aB=>exact (bg HB.out GE101 GE101));(case aF=>exact (fun _ _=>trivial));(case aO=>exact (rq HO_5.out));(case aS=>exact (below_size (bg HB.out GE101 GE101)));(case aL=>have:=LMc9.out;omega);intro v104 w10 ho hb hg hat;rw [← Ny103.out] at ho;have n0_:=zk (blk_grown (g:=gb101) (o:=.cells #[.slice A0_0 l0_0.length c0_0,.slice (some ad102) l0_1.length c0_1] 24 (0,0)) (hq BK101.out) hg (Kd.R_ne HO_5.out BK101.out (by decide)));have n1_:=zk (hb);have n2_:=zk (ho);clear BK101;clear HB;clear HO_5;have BK101:=n0_;have HB:=n1_;have HO105:=n2_;clear n0_ n1_ n2_;clear ho hb hg hat))
        go_roundg k1
        case measure=>have:=HK1.out;omega
        case rel=>exact ⟨(y103),(wrap64 (x11_1 + 1)),oE,H',⟨by have:=HK1.out;omega⟩,⟨rq HO105.out⟩,⟨hq BK101.out⟩,⟨bg HB.out GE101 GE101⟩⟩
       ·rw [if_neg c9] at H
        exact absurd H (by simp)
      ·rw [if_neg c8] at H
       have c8b0:((rd l0_1 x11_1) == a1) = false:=beq_eq_false_iff_ne.mpr c8
       have c8b1:((rd l0_1 x11_1) != a1) = true:=bne_iff_ne.mpr c8
       have H':=Aside0.mk H
       clear H
       have p102:0 ≤ (x11_1:Int):=oA
       have q102:x11_1 < (l0_1.length:Int):=oA
       obtain ⟨ad102,e102,hx102_0⟩:=Kd.at_int HR0_1.out x11_1 p102 q102
       cases e102
       replace hx102_0:=(HB.out.cell (World.block_lt_of_cell? w _ hx102_0)).trans hx102_0
       replace p102:=eq_true p102
       replace q102:=eq_true q102
       go_wp2
       go_roundg k1
       case measure=>have:=HK1.out;omega
       case rel=>exact ⟨(x5_1),(wrap64 (x11_1 + 1)),oE,H',⟨by have:=HK1.out;omega⟩,⟨rq HO_5.out⟩,⟨hq BK101.out⟩,⟨bg HB.out GE101 GE101⟩⟩
     ·rw [if_neg c7] at H
      exact absurd H (by simp)
    ·rw [if_neg c6] at H
     exact absurd H (by simp)
   ·rw [if_neg c5] at H
    have c5b0:decide (x11_1 < (l0_1.length:Int)) = false:=decide_eq_false c5
    clear c5
    obtain rfl:=Option.some.inj H
    go_wp2
    go_ret
    exact ⟨_,by first|rfl|(simp [errW_none,errW_some] <;> rfl)|(simp [*,errW_none,errW_some] <;> rfl),rq HO_5.out,bg HB.out GE101 GE101⟩
def q8.f (a0:Int):Option (Bool):=if a0 = 1 then (some true) else (some (a0 == 2))
set_option maxHeartbeats 8000000 in
set_option maxRecDepth 100000 in
theorem q8.calls (a0:Int) (r:Bool) (w:World) (h:q8.f a0 = some r) :
  Calls Try.prog 45 #[.int .i64 a0] w fun e w'=>e = .returned (.bool r) ∧ Drawn0 w w':=by
 have H:(if a0 = 1 then (some true) else (some (a0 == 2))) = some r:=h
 clear h
 by_cases c2:a0 = 1
 ·rw [if_pos c2] at H
  have c2b0:(a0 == 1) = true:=beq_iff_eq.mpr c2
  have c2b1:(a0 != 1) = false:=bne_eq_false_iff_eq.mpr c2
  clear c2
  obtain rfl:=Option.some.inj H
  go_enter Try.func45,Try.ntmps45
  go_wp2
  go_ret
  exact ⟨by first|rfl|(simp;done)|(simp [*];done),by repeat (first|exact Drawn0.refl _|apply Drawn0.step)⟩
 ·rw [if_neg c2] at H
  have c2b0:(a0 == 1) = false:=beq_eq_false_iff_ne.mpr c2
  have c2b1:(a0 != 1) = true:=bne_iff_ne.mpr c2
  obtain rfl:=Option.some.inj H
  go_enter Try.func45,Try.ntmps45
  go_wp2
  go_ret
  exact ⟨by first|rfl|(simp;done)|(simp [*];done),by repeat (first|exact Drawn0.refl _|apply Drawn0.step)⟩
def q6.l0:Nat → List Int → Int → Int → List Int → List Int → Option (Int)
 | 0,_,_,_,_,_=>none
 | k + 1,x9,x10,x11,x102000,x102001=>if x11 < x10 then (if 0 ≤ x11 then (if x11 < (x9.length:Int) then (if 0 ≤ (rd x9 x11) then (if (rd x9 x11) < (x102000.length:Int) then ((q8.f (rd x102000 (rd x9 x11))).bind fun t107=>(if t107 = true then (some (rd x9 x11)) else (q6.l0 k x9 x10 (wrap64 (x11 + 1)) x102000 x102001))) else (none)) else (none)) else (none)) else (none)) else (some (-1))
def q6.f (k:Nat) (l0_0:List Int) (l0_1:List Int) (a1:Int):Option (Int):=(q10.f k l0_0 l0_1 a1).bind fun t102=>(q6.l0 k t102 (t102.length:Int) 0 l0_0 l0_1)
set_option maxHeartbeats 8000000 in
set_option maxRecDepth 100000 in
theorem q6.calls (k:Nat) (A0_0:Option Addr) (c0_0:Nat) (l0_0:List Int) (A0_1:Option Addr) (c0_1:Nat) (l0_1:List Int) (a1:Int) (r:Int) (w:World) (hr0_0:Kd.C (Kd.int .i64) w A0_0 l0_0.length l0_0) (hc0_0:l0_0.length ≤ c0_0) (hr0_1:Kd.C (Kd.int .i64) w A0_1 l0_1.length l0_1) (hc0_1:l0_1.length ≤ c0_1) (h:q6.f k l0_0 l0_1 a1 = some r) :
  Calls Try.prog 30 #[.agg #[.slice A0_0 l0_0.length c0_0,.slice A0_1 l0_1.length c0_1],.int .i64 a1] w fun e w'=>e = .returned (.int .i64 r) ∧ Below w.heap.size w w':=by
 have hu24:=Try.underlying24
 have HR0_0:=Aside0.mk hr0_0
 have HC0_0:=Aside0.mk hc0_0
 clear hr0_0 hc0_0
 have HR0_1:=Aside0.mk hr0_1
 have HC0_1:=Aside0.mk hc0_1
 clear hr0_1 hc0_1
 have HB:=zk (Below.refl w.heap.size w)
 have H:((q10.f k l0_0 l0_1 a1).bind fun t102=>(q6.l0 k t102 (t102.length:Int) 0 l0_0 l0_1)) = some r:=h
 clear h
 replace H:=Option.bind_eq_some_iff.mp H
 obtain ⟨t102,A30,H⟩:=H
 replace H:(q6.l0 k t102 (t102.length:Int) 0 l0_0 l0_1) = some r:=H
 have A3:=Aside0.mk A30
 clear A30
 have H':=Aside0.mk H
 clear H
 go_enter Try.func30,Try.ntmps30
 go_wp2_with (first|((with_reducible refine gate_dst (N:=2) rfl ?_);refine box_event ?hg (N:=2) ?hd (cs:=#[.slice A0_0 l0_0.length c0_0,.slice A0_1 l0_1.length c0_1]) (t:=24) ?hr ?_;(case hd=>rfl);(case hg=>rfl);(case hr=>first|(go_simp;done)|(go_simp;rfl));intro gb101 hg w4 hbox hb;have n0_:=zk (below_step (bq HB.out) hb);have n1_:=zk (hbox);have n2_:=zk ((by rw [hg];exact (below_size (bq HB.out)):w.heap.size ≤ gb101));have n3_:=zk ((by rw [hg];exact (below_size (bq HB.out)):w.heap.size ≤ gb101));clear HB;have HB:=n0_;have BK101:=n1_;have GW101:=n2_;have GE101:=n3_;clear n0_ n1_ n2_ n3_;clear hb hbox hg;have hcz5_0:w4.cell? ⟨gb101,0,none⟩ = some (.slice A0_0 l0_0.length c0_0):=(blk_cell BK101.out 0).trans rfl;have hcz5_1:w4.cell? ⟨gb101,1,none⟩ = some (.slice A0_1 l0_1.length c0_1):=(blk_cell BK101.out 1).trans rfl;have hfz5_0:=blk_frozen BK101.out 0;have hfz5_1:=blk_frozen BK101.out 1)|((with_reducible refine gate_callee (f:=25) rfl ?_);refine goesL_ (some 9) rfl rfl Try.func25 (by kernel_rfl) rfl #[.agg #[.slice A0_0 l0_0.length c0_0,.slice A0_1 l0_1.length c0_1],.int .i64 a1] rfl oF ?_;(with_reducible refine (q10.calls k _ _ l0_0 _ _ l0_1 a1 t102 _ ?side1 ?side2 ?side3 ?side4 A3.out).mono ?_);(case side1=>exact cq (Kd.C_below HR0_0.out HB.out));(case side2=>exact HC0_0.out);(case side3=>exact cq (Kd.C_below HR0_1.out HB.out));(case side4=>exact HC0_1.out);rintro e w6 ⟨v103,rfl,ho0,hb⟩;refine ⟨_,rfl,?_⟩;have n0_:=zk (Kd.R_lower ho0 (below_size (bg HB.out GE101 GE101)));have n1_:=zk (blk_below (g:=gb101) (o:=.cells #[.slice A0_0 l0_0.length c0_0,.slice A0_1 l0_1.length c0_1] 24 (0,0)) (hq BK101.out) hb);have n2_:=zk (below_step (bg HB.out GE101 GE101) hb);clear BK101;clear HB;have HO104:=n0_;have BK101:=n1_;have HB:=n2_;clear n0_ n1_ n2_;(try clear hb);(try clear hb2);(try clear hk);(try clear hi);(try clear ho0);obtain ⟨Ao7,co7,eo7⟩:=Kd.R_slice HO104.out;subst eo7))
 go_loopg [11] k (fun kq v11 w'=>∃ (x11_1:Int),v11 = .int .i64 x11_1 ∧ Aside0 (q6.l0 kq t102 (t102.length:Int) x11_1 l0_0 l0_1 = some r) ∧ Aside0 (kq ≤ k) ∧ Aside0 (Kd.R (Kd.int .i64) 3 w' w.heap.size (fun _=>True) (.slice Ao7 t102.length co7) t102) ∧ Aside0 (w'.heap[gb101]? = some (.cells #[(.slice A0_0 l0_0.length c0_0),(.slice A0_1 l0_1.length c0_1)] 24 (0,0))) ∧ Aside0 (Below w.heap.size w w'))
 case atStart=>exact ⟨(0),oE,H',⟨Nat.le_refl _⟩,⟨rq HO104.out⟩,⟨hq BK101.out⟩,⟨bg HB.out GE101 GE101⟩⟩
 case round =>
  clear H'
  try clear c2
  try clear p2
  try clear c3
  try clear hcz5_0
  try clear hcz5_1
  try clear hfz5_0
  try clear hfz5_1
  obtain ⟨x11_1,rfl,HA,HK1,HO_9,BK101,HB⟩:=hrel
  cases gk with
  | zero=>exact absurd HA.out (by simp [q6.l0])
  | succ k1 =>
   have H:=HA.out
   clear HA
   simp only [q6.l0] at H
   by_cases c8:x11_1 < (t102.length:Int)
   ·rw [if_pos c8] at H
    have c8b0:decide (x11_1 < (t102.length:Int)) = true:=decide_eq_true c8
    clear c8
    by_cases c9:0 ≤ x11_1
    ·rw [if_pos c9] at H
     have c9b0:decide (0 ≤ x11_1) = true:=decide_eq_true c9
     clear c9
     by_cases c10:x11_1 < (t102.length:Int)
     ·rw [if_pos c10] at H
      have c10b0:decide (x11_1 < (t102.length:Int)) = true:=decide_eq_true c10
      clear c10
      by_cases c11:0 ≤ (rd t102 x11_1)
      ·rw [if_pos c11] at H
       have c11b0:decide (0 ≤ (rd t102 x11_1)) = true:=decide_eq_true c11
       clear c11
       by_cases c12:(rd t102 x11_1) < (l0_0.length:Int)
       ·rw [if_pos c12] at H
        have c12b0:decide ((rd t102 x11_1) < (l0_0.length:Int)) = true:=decide_eq_true c12
        clear c12
        replace H:=Option.bind_eq_some_iff.mp H
        obtain ⟨t107,A130,H⟩:=H
        replace H:(if t107 = true then (some (rd t102 x11_1)) else (q6.l0 k1 t102 (t102.length:Int) (wrap64 (x11_1 + 1)) l0_0 l0_1)) = some r:=H
        have A13:=Aside0.mk A130
        clear A130
        by_cases c14:t107 = true
        ·subst c14
         have H1:(some (rd t102 x11_1)) = some r:=by rw [if_pos rfl] at H;exact H
         clear H
         have H:=H1
         clear H1
         obtain rfl:=Option.some.inj H
         have p105:0 ≤ (x11_1:Int):=oA
         have q105:x11_1 < (t102.length:Int):=oA
         obtain ⟨ad105,e105,hx105_0⟩:=Kd.at_int (Kd.R_reads' HO_9.out).2.2 x11_1 p105 q105
         cases e105
         replace p105:=eq_true p105
         replace q105:=eq_true q105
         have hcz15_0:wr.cell? ⟨gb101,0,none⟩ = some (.slice A0_0 l0_0.length c0_0):=(blk_cell BK101.out 0).trans rfl
         have hcz15_1:wr.cell? ⟨gb101,1,none⟩ = some (.slice A0_1 l0_1.length c0_1):=(blk_cell BK101.out 1).trans rfl
         have hfz15_0:=blk_frozen BK101.out 0
         have hfz15_1:=blk_frozen BK101.out 1
         have p106:0 ≤ ((rd t102 x11_1):Int):=oA
         have q106:(rd t102 x11_1) < (l0_0.length:Int):=oA
         obtain ⟨ad106,e106,hx106_0⟩:=Kd.at_int HR0_0.out (rd t102 x11_1) p106 q106
         cases e106
         replace hx106_0:=(HB.out.cell (World.block_lt_of_cell? w _ hx106_0)).trans hx106_0
         replace p106:=eq_true p106
         replace q106:=eq_true q106
         go_wp2_with (first|((with_reducible refine gate_callee (f:=45) rfl ?_);refine goesL_ (some 20) rfl rfl Try.func45 (by kernel_rfl) rfl #[.int .i64 (rd l0_0 (rd t102 x11_1))] rfl oF ?_;(with_reducible refine (q8.calls (rd l0_0 (rd t102 x11_1)) true _ A13.out).mono ?_);rintro e w' ⟨rfl,⟨nd,rfl⟩⟩;refine ⟨_,rfl,?_⟩))
         go_ret
         exact ⟨by first|rfl|(simp [errW_none,errW_some] <;> rfl)|(simp [*,errW_none,errW_some] <;> rfl),bg HB.out GE101 GE101⟩
        ·replace c14:=Bool.eq_false_iff.mpr c14
         subst c14
         have H1:(q6.l0 k1 t102 (t102.length:Int) (wrap64 (x11_1 + 1)) l0_0 l0_1) = some r:=by rw [if_neg (show ¬ (false = true) by decide)] at H;exact H
         clear H
         have H:=H1
         clear H1
         have H':=Aside0.mk H
         clear H
         have p105:0 ≤ (x11_1:Int):=oA
         have q105:x11_1 < (t102.length:Int):=oA
         obtain ⟨ad105,e105,hx105_0⟩:=Kd.at_int (Kd.R_reads' HO_9.out).2.2 x11_1 p105 q105
         cases e105
         replace p105:=eq_true p105
         replace q105:=eq_true q105
         have hcz16_0:wr.cell? ⟨gb101,0,none⟩ = some (.slice A0_0 l0_0.length c0_0):=(blk_cell BK101.out 0).trans rfl
         have hcz16_1:wr.cell? ⟨gb101,1,none⟩ = some (.slice A0_1 l0_1.length c0_1):=(blk_cell BK101.out 1).trans rfl
         have hfz16_0:=blk_frozen BK101.out 0
         have hfz16_1:=blk_frozen BK101.out 1
         have p106:0 ≤ ((rd t102 x11_1):Int):=oA
         have q106:(rd t102 x11_1) < (l0_0.length:Int):=oA
         obtain ⟨ad106,e106,hx106_0⟩:=Kd.at_int HR0_0.out (rd t102 x11_1) p106 q106
         cases e106
         replace hx106_0:=(HB.out.cell (World.block_lt_of_cell? w _ hx106_0)).trans hx106_0
         replace p106:=eq_true p106
         replace q106:=eq_true q106
         go_wp2_with (first|((with_reducible refine gate_callee (f:=45) rfl ?_);refine goesL_ (some 20) rfl rfl Try.func45 (by kernel_rfl) rfl #[.int .i64 (rd l0_0 (rd t102 x11_1))] rfl oF ?_;(with_reducible refine (q8.calls (rd l0_0 (rd t102 x11_1)) false _ A13.out).mono ?_);rintro e w' ⟨rfl,⟨nd,rfl⟩⟩;refine ⟨_,rfl,?_⟩))
         go_roundg k1
         case measure=>have:=HK1.out;omega
         case rel=>exact ⟨(wrap64 (x11_1 + 1)),oE,H',⟨by have:=HK1.out;omega⟩,⟨rq HO_9.out⟩,⟨hq BK101.out⟩,⟨bg HB.out GE101 GE101⟩⟩
       ·rw [if_neg c12] at H
        exact absurd H (by simp)
      ·rw [if_neg c11] at H
       exact absurd H (by simp)
     ·rw [if_neg c10] at H
      exact absurd H (by simp)
    ·rw [if_neg c9] at H
     exact absurd H (by simp)
   ·rw [if_neg c8] at H
    have c8b0:decide (x11_1 < (t102.length:Int)) = false:=decide_eq_false c8
    clear c8
    obtain rfl:=Option.some.inj H
    go_wp2
    go_ret
    exact ⟨by first|rfl|(simp [errW_none,errW_some] <;> rfl)|(simp [*,errW_none,errW_some] <;> rfl),bg HB.out GE101 GE101⟩
end Go.Proofs.Ytnomeokicfpidaa.Q
