-- merged and slimmed by slim.py (a program of this repo)
import Derived.Test.YtniohifoimhbkaaWMore
import Derived.Test.YtniohifoimhbkaaShelf
import Derived.Test.YtniohifoimhbkaaWEqStruct
import Derived.Test.YtniohifoimhbkaaWRepsOne
namespace Go.Proofs.YtniohifoimhbkaaW.PrintWords
open Go.RowKit
set_option linter.unusedVariables false
universe u
class St (w w' : World):Prop where
  b:∀ {w0:World},Below w0.heap.size w0 w → Below w0.heap.size w0 w'
  h:∀ {g:Nat} {o:Obj},w.heap[g]? = some o → w'.heap[g]? = some o
  r:∀ {α:Type} {d:Kd α} {e base:Nat} {ok:Nat → Prop} {v:Value} {xs:List α},d.R e w base ok v xs → d.R e w' base ok v xs
  c:∀ {α:Type} {d:Kd α} {A:Option Addr} {n:Nat} {xs:List α},d.C w A n xs → d.C w' A n xs
instance St.refl (w:World):St w w:=⟨id,id,id,id⟩
instance St.alloc (w w' : World) (o:Obj) [i:St w w']:St w (w'.alloc o):=⟨fun h=>below_alloc (i.b h) o,fun h=>blk_alloc (i.h h) o,fun h=>Kd.R_alloc (i.r h) o,fun h=>Kd.C_alloc (i.c h) o⟩
instance St.drewN (w w' : World) (n:Nat) [i:St w w']:St w (w'.drewN n):=⟨fun h=>pw_below_drewN (i.b h) n,fun h=>blk_drewN (i.h h) n,fun h=>Kd.R_drewN (i.r h) n,fun h=>Kd.C_drewN (i.c h) n⟩
instance St.drew (w w' : World) [i:St w w']:St w w'.drew:=⟨fun h=>below_drew1 (i.b h),fun h=>blk_drew (i.h h),fun h=>Kd.R_drew (i.r h),fun h=>Kd.C_drew (i.c h)⟩
theorem bq {w0 w w' : World} (h:Below w0.heap.size w0 w) [i:St w w']:Below w0.heap.size w0 w':=i.b h
theorem hq {w w' : World} {g:Nat} {o:Obj} (h:w.heap[g]? = some o) [i:St w w']:w'.heap[g]? = some o:=i.h h
theorem rq {w w' : World} {α:Type} {d:Kd α} {e base:Nat} {ok:Nat → Prop} {v:Value} {xs:List α} (h:d.R e w base ok v xs) [i:St w w']:d.R e w' base ok v xs:=i.r h
theorem cq {w w' : World} {α:Type} {d:Kd α} {A:Option Addr} {n:Nat} {xs:List α} (h:d.C w A n xs) [i:St w w']:d.C w' A n xs:=i.c h
class Sg (g g' : Nat) (w w' : World):Prop where
  b:∀ {w0:World},w0.heap.size ≤ g → w0.heap.size ≤ g' → Below w0.heap.size w0 w → Below w0.heap.size w0 w'
instance Sg.refl (g g' : Nat) (w:World):Sg g g' w w:=⟨fun _ _ h=>h⟩
instance Sg.alloc (g g' : Nat) (w w' : World) (o:Obj) [i:Sg g g' w w']:Sg g g' w (w'.alloc o):=⟨fun a b h=>below_alloc (i.b a b h) o⟩
instance Sg.drewN (g g' : Nat) (w w' : World) (n:Nat) [i:Sg g g' w w']:Sg g g' w (w'.drewN n):=⟨fun a b h=>pw_below_drewN (i.b a b h) n⟩
instance Sg.drew (g g' : Nat) (w w' : World) [i:Sg g g' w w']:Sg g g' w w'.drew:=⟨fun a b h=>below_drew1 (i.b a b h)⟩
instance Sg.set1 (g g' j:Nat) (v:Value) (w w' : World) [i:Sg g g' w w']:Sg g g' w (w'.setCell ⟨g,j,none⟩ v):=⟨fun a b h=>below_set (i.b a b h) a⟩
instance Sg.set2 (g g' j:Nat) (v:Value) (w w' : World) [i:Sg g g' w w']:Sg g g' w (w'.setCell ⟨g',j,none⟩ v):=⟨fun a b h=>below_set (i.b a b h) b⟩
theorem bg {w0 w w' : World} {g g' : Nat} (h:Below w0.heap.size w0 w) (a:Aside0 (w0.heap.size ≤ g)) (b:Aside0 (w0.heap.size ≤ g')) [i:Sg g g' w w']:Below w0.heap.size w0 w':=i.b a.out b.out h
theorem zk {p:Prop} (h:p):Aside0 p:=⟨h⟩
theorem oA {p:Prop} [Decidable p] (h:decide p = true:=by first|(with_reducible assumption)|assumption):p:=of_decide_eq_true h
theorem oE {α:Sort u} {a b:α} (h:a = b:=by first|rfl|(simp;done)|(simp [*];done)):a = b:=h
theorem oF {α:Sort u} {a b:α} (h:a = b:=by first|done|rfl|((try simp only [List.map_toArray,List.map_cons,List.map_nil]);first|done|rfl|(simp only [List.length_drop,List.length_take];rfl))):a = b:=h
theorem oD {p:Prop} [Decidable p] (h:decide p = true):p:=of_decide_eq_true h
end Go.Proofs.YtniohifoimhbkaaW.PrintWords
namespace Go.Proofs.Ytniohifoimhbkaa.Q
open Go.RowKit Go.Proofs.YtniohifoimhbkaaW.PrintWords Go.Proofs.YtniohifoimhbkaaW.PrintLast Go.Proofs.YtniohifoimhbkaaW.PrintMore
attribute [local go_sem] max2_int min2_int max_two min_two max_three min_three max_four min_four
set_option linter.unusedVariables false
set_option linter.unusedSimpArgs false
def errW:Option Int → Value
 | none=>.nilIface
 | some c=>.iface 0 (.int .i64 c)
theorem errW_none:errW none = .nilIface:=rfl
theorem errW_some (c:Int):errW (some c) = .iface 0 (.int .i64 c):=rfl
theorem info28:(Try.prog.info? 28).map (fun i=>(i.zero,i.size,i.bytes)) = some (some (.agg #[(.string ⟨#[]⟩),(.int .i64 0)]),2,24):=by kernel_rfl
structure S28 where
 f0:ByteArray
 f1:Int
def z28:S28:=⟨(⟨#[]⟩:ByteArray),(0:Int)⟩
def k28:Kd S28:=Kd.iso (Kd.pair Kd.string (Kd.int .i64)) (fun x:S28=>(x.f0,x.f1))
theorem k28_open {w:World} {x:S28} {cs:List Value} (h:k28.K w x cs):cs = [.string x.f0,.int .i64 x.f1]:=by
 obtain ⟨_,_,rfl,rfl,rfl⟩:=h
 exact rfl
theorem k28_mkM (w:World) (base:Nat) (ok:Nat → Prop) (x:S28)  : k28.M w base ok x [.string x.f0,.int .i64 x.f1]:=⟨[.string x.f0],[.int .i64 x.f1],rfl,rfl,rfl⟩
def rd_T28 (xs:List S28) (i:Int):S28:=xs.getD i.toNat z28
theorem at_T28 {w:World} {A:Option Addr} {n:Nat} {xs:List S28} (h:Kd.C k28 w A n xs) (i:Int) (h0:0 ≤ i) (h1:i < n):∃ ad ,A = some ad ∧ w.cell? (ad.add (i.toNat * 2)) = some (.string (rd_T28 xs i).f0) ∧ w.cell? ⟨(ad.add (i.toNat * 2)).block,(ad.add (i.toNat * 2)).off + 1,none⟩ = some (.int .i64 (rd_T28 xs i).f1):=by
 obtain ⟨ad,c,e,_,hK,hc0⟩:=Kd.C_get h z28 i h0 h1
 have hc:∀ j u,c[j]? = some u → w.cell? (ad.add (i.toNat * 2 + j)) = some u:=hc0
 obtain rfl:=k28_open hK
 exact ⟨ad,e,hc 0 _ rfl,by rw [← add_field _ _ 1 (by omega)];exact hc 1 _ rfl⟩
def q1.f (a0:Int) (a1:Int):Option (Int):=if a1 < 1 then (some 0) else (if a1 = 0 then (none) else (if (Int.tmod a0 a1) < 0 then (some (wrap64 ((Int.tmod a0 a1) + a1))) else (some (Int.tmod a0 a1))))
set_option maxHeartbeats 8000000 in
set_option maxRecDepth 100000 in
theorem q1.calls (a0:Int) (a1:Int) (r:Int) (w:World) (h:q1.f a0 a1 = some r) :
  Calls Try.prog 6 #[.int .i64 a0,.int .i64 a1] w fun e w'=>e = .returned (.int .i64 r) ∧ Drawn0 w w':=by
 have H:(if a1 < 1 then (some 0) else (if a1 = 0 then (none) else (if (Int.tmod a0 a1) < 0 then (some (wrap64 ((Int.tmod a0 a1) + a1))) else (some (Int.tmod a0 a1))))) = some r:=h
 clear h
 by_cases c3:a1 < 1
 ·rw [if_pos c3] at H
  have c3b0:decide (a1 < 1) = true:=decide_eq_true c3
  clear c3
  obtain rfl:=Option.some.inj H
  go_enter Try.func6,Try.ntmps6
  go_wp2
  go_ret
  exact ⟨by first|rfl|(simp;done)|(simp [*];done),by repeat (first|exact Drawn0.refl _|apply Drawn0.step)⟩
 ·rw [if_neg c3] at H
  have c3b0:decide (a1 < 1) = false:=decide_eq_false c3
  clear c3
  by_cases c4:a1 = 0
  ·rw [if_pos c4] at H
   exact absurd H (by simp)
  ·rw [if_neg c4] at H
   have c4b0:(a1 == 0) = false:=beq_eq_false_iff_ne.mpr c4
   have c4b1:(a1 != 0) = true:=bne_iff_ne.mpr c4
   by_cases c5:(Int.tmod a0 a1) < 0
   ·rw [if_pos c5] at H
    have c5b0:decide ((Int.tmod a0 a1) < 0) = true:=decide_eq_true c5
    clear c5
    obtain rfl:=Option.some.inj H
    go_enter Try.func6,Try.ntmps6
    go_wp2
    go_ret
    exact ⟨by first|rfl|(simp;done)|(simp [*];done),by repeat (first|exact Drawn0.refl _|apply Drawn0.step)⟩
   ·rw [if_neg c5] at H
    have c5b0:decide ((Int.tmod a0 a1) < 0) = false:=decide_eq_false c5
    clear c5
    obtain rfl:=Option.some.inj H
    go_enter Try.func6,Try.ntmps6
    go_wp2
    go_ret
    exact ⟨by first|rfl|(simp;done)|(simp [*];done),by repeat (first|exact Drawn0.refl _|apply Drawn0.step)⟩
def q4.f (a0:ByteArray) (a1:Int):Option (ByteArray):=if 0 ≤ (mn (a0.size:Int) a1) then (if (mn (a0.size:Int) a1) ≤ (a0.size:Int) then (some (a0.extract 0 ((mn (a0.size:Int) a1):Int).toNat)) else (none)) else (none)
set_option maxHeartbeats 8000000 in
set_option maxRecDepth 100000 in
theorem q4.calls (a0:ByteArray) (a1:Int) (r:ByteArray) (w:World) (h:q4.f a0 a1 = some r) :
  Calls Try.prog 11 #[.string a0,.int .i64 a1] w fun e w'=>e = .returned (.string r) ∧ Below w.heap.size w w':=by
 have HB:=zk (Below.refl w.heap.size w)
 have H:(if 0 ≤ (mn (a0.size:Int) a1) then (if (mn (a0.size:Int) a1) ≤ (a0.size:Int) then (some (a0.extract 0 ((mn (a0.size:Int) a1):Int).toNat)) else (none)) else (none)) = some r:=h
 clear h
 obtain ⟨ji3,hji3⟩:∃ j_:Int,(mn (a0.size:Int) a1) = j_:=⟨_,rfl⟩
 replace H:(if 0 ≤ (ji3) then (if (ji3) ≤ (a0.size:Int) then (some (a0.extract 0 ((ji3):Int).toNat)) else (none)) else (none)) = some r:=by first|(rw [hji3] at H;exact H)|(simp only [hji3] at H ⊢;exact H)
 have hji3_:(if a1 < (a0.size:Int) then a1 else (a0.size:Int)) = ji3:=hji3
 by_cases c4:0 ≤ (ji3)
 ·rw [if_pos c4] at H
  have c4b0:=eq_true c4
  have c4b1:decide (0 ≤ (ji3)) = true:=decide_eq_true c4
  clear c4
  by_cases c5:(ji3) ≤ (a0.size:Int)
  ·rw [if_pos c5] at H
   have c5b0:=eq_true c5
   have c5b1:decide ((ji3) ≤ (a0.size:Int)) = true:=decide_eq_true c5
   clear c5
   obtain rfl:=Option.some.inj H
   go_enter Try.func11,Try.ntmps11
   go_wp2
   go_ret
   exact ⟨by first|rfl|(simp [errW_none,errW_some] <;> rfl)|(simp only [← hji3];first|rfl|(simp [errW_none,errW_some] <;> rfl))|(simp [*,errW_none,errW_some] <;> rfl),bq HB.out⟩
  ·rw [if_neg c5] at H
   exact absurd H (by simp)
 ·rw [if_neg c4] at H
  exact absurd H (by simp)
def cleanL (l:List UInt8):List UInt8:=l.filter (fun c=>decide (32 < c.toNat) && (decide (c.toNat < 127) && (c.toNat != 35)))
def cleanB (l:List UInt8):ByteArray:=⟨((119:UInt8) :: cleanL l).toArray⟩
def q2.f (a0:ByteArray):Option (ByteArray):=some (cleanB (a0.data.toList.take 10))
set_option maxHeartbeats 8000000 in
set_option maxRecDepth 100000 in
theorem q2.calls (a0:ByteArray) (r:ByteArray) (w:World) (h:q2.f a0 = some r) :
  Calls Try.prog 7 #[.string a0] w fun e w'=>e = .returned (.string r) ∧ Below w.heap.size w w':=by
 obtain ⟨y,hy⟩:∃ y,y = a0.extract 0 ((mn (a0.size:Int) 10):Int).toNat:=⟨_,rfl⟩
 have hT:q4.f a0 10 = some y:=by
  unfold q4.f mn
  rw [hy]
  unfold mn
  split
  ·rw [if_pos (by omega),if_pos (by omega)]
  ·rw [if_pos (by omega),if_pos (by omega)]
 have hys:y.size ≤ 10:=by
  rw [hy,ByteArray.size_extract]
  unfold mn
  split <;> omega
 have HT:=Aside0.mk hT
 have HYS:=Aside0.mk hys
 have HY:=Aside0.mk hy
 have HR:=Aside0.mk h
 clear h hy hT hys
 have kc:=fun (w:World)=>run_bytes_of_string (P:=Try.prog) w 9 34 5 y Try.underlying9 Try.underlying34 Try.underlying5
 go_enter Try.func7,Try.ntmps7
 go_wp2_with (go_at_call 11;(with_reducible refine (q4.calls _ _ y w HT.out).mono ?_);rintro e w1 ⟨rfl,hb1⟩;have HB1:=Aside0.mk hb1;clear hb1)
 have hB2:Below w.heap.size w ((w1.alloc (.cells (bytesRow y (grownCap w1 y.size 0 5)) 5 ((bytesRow y (grownCap w1 y.size 0 5)).size,(bytesRow y (grownCap w1 y.size 0 5)).size + 1))).drew):=below_drew (below_alloc HB1.out _)
 have hsz:w1.heap.size < ((w1.alloc (.cells (bytesRow y (grownCap w1 y.size 0 5)) 5 ((bytesRow y (grownCap w1 y.size 0 5)).size,(bytesRow y (grownCap w1 y.size 0 5)).size + 1))).drew).heap.size:=by
  show w1.heap.size < (w1.heap.push _).size
  rw [Array.size_push];omega
 have hcell:∀ j,j < y.size → ((w1.alloc (.cells (bytesRow y (grownCap w1 y.size 0 5)) 5 ((bytesRow y (grownCap w1 y.size 0 5)).size,(bytesRow y (grownCap w1 y.size 0 5)).size + 1))).drew).cell? ⟨w1.heap.size,j,none⟩ = some (.int .u8 ((y.data.toList.getD j 0).toNat:Int)):=by
  intro j hj
  have h1:=World.cell?_alloc_mark w1 (bytesRow y (grownCap w1 y.size 0 5)) 5 ((bytesRow y (grownCap w1 y.size 0 5)).size,(bytesRow y (grownCap w1 y.size 0 5)).size + 1) j
  refine Eq.trans h1 ?_
  unfold bytesRow
  have hj' : j < y.data.size:=hj
  rw [Array.getElem?_append_left (by rw [Array.size_map];exact hj'),Array.getElem?_map,Array.getElem?_eq_getElem hj',List.getD_eq_getElem?_getD,Array.getElem?_toList,Array.getElem?_eq_getElem hj']
  rfl
 obtain ⟨W2,hW⟩:∃ W2,W2 = (w1.alloc (.cells (bytesRow y (grownCap w1 y.size 0 5)) 5 ((bytesRow y (grownCap w1 y.size 0 5)).size,(bytesRow y (grownCap w1 y.size 0 5)).size + 1))).drew:=⟨_,rfl⟩
 rw [← hW] at hB2 hsz hcell ⊢
 have HB2:=Aside0.mk hB2
 have HSZ:=Aside0.mk hsz
 have HC:=Aside0.mk hcell
 clear hB2 hsz hcell hW kc
 generalize grownCap w1 y.size 0 5 = cp
 go_loopg [3,5,10] y.size (fun kq v3 v5 v10 w'=>∃ (xi:Int),v3 = .string (cleanB (y.data.toList.take xi.toNat)) ∧ v10 = .int .i64 xi ∧ Aside0 (0 ≤ xi ∧ xi + kq = y.size) ∧ Aside0 (Below W2.heap.size W2 w'))
 case atStart=>exact ⟨0,rfl,rfl,⟨by omega,by omega⟩,⟨Below.refl _ _⟩⟩
 case round =>
  obtain ⟨xi,rfl,rfl,HX,HW3⟩:=hrel
  cases gk with
  | zero =>
   have c1:decide (xi < (y.size:Int)) = false:=decide_eq_false (by have:=HX.out;omega)
   have hx:xi.toNat = y.size:=by have:=HX.out;omega
   have hd:cleanB (y.data.toList.take xi.toNat) = r:=by
    have e:=Option.some.inj HR.out
    rw [← e,hx]
    congr 1
    rw [List.take_of_length_le (by rw [data_length];exact Nat.le_refl _),HY.out,ByteArray.data_extract,Array.toList_extract]
    have hl:=data_length a0
    rw [List.extract_eq_take_drop,List.drop_zero,Nat.sub_zero]
    unfold mn
    split
    ·rfl
    ·rw [List.take_of_length_le (by omega),List.take_of_length_le (by omega)]
   rw [hd]
   clear hd
   go_wp2
   go_ret
   exact ⟨rfl,HB2.out.trans (HW3.out.mono (by have:=HB2.out.size;omega))⟩
  | succ k1 =>
   have c0:=eq_true HX.out.1
   have hlt:xi < (y.size:Int):=by have:=HX.out;omega
   have c1:=eq_true hlt
   have c2:decide (xi < (y.size:Int)) = true:=decide_eq_true hlt
   obtain ⟨b,hb⟩:∃ b,b = y.data.toList.getD xi.toNat 0:=⟨_,rfl⟩
   have hx:wr.cell? ⟨w1.heap.size,xi.toNat,none⟩ = some (.int .u8 (b.toNat:Int)):=by
    have h1:=HC.out xi.toNat (by have:=HX.out;omega)
    rw [← hb] at h1
    rw [HW3.out.cell (p:=⟨w1.heap.size,xi.toNat,none⟩) HSZ.out]
    exact h1
   have hw:wrap64 (xi + 1) = xi + 1:=by have:=HX.out;have:=HYS.out;unfold wrap64;omega
   have hstep:cleanL (y.data.toList.take (xi + 1).toNat) = cleanL (y.data.toList.take xi.toNat) ++ cleanL [b]:=by
    have:=HX.out
    unfold cleanL
    rw [← List.filter_append,show (xi + 1).toNat = xi.toNat + 1 by omega,List.take_add_one,hb]
    congr 2
    rw [List.getElem?_eq_getElem (by rw [data_length];omega),List.getD_eq_getElem?_getD,List.getElem?_eq_getElem (by rw [data_length];omega)];rfl
   have HWR:=Aside0.mk hw
   have HST:=Aside0.mk hstep
   clear hw hstep hb hlt
   have skip_:cleanL [b] = [] → cleanB (y.data.toList.take (xi + 1).toNat) = cleanB (y.data.toList.take xi.toNat):=by
    intro e;unfold cleanB;rw [HST.out,e,List.append_nil]
   have SK:=Aside0.mk skip_
   clear skip_
   by_cases p1:(b.toNat:Int) > 32
   ·have d1:decide ((b.toNat:Int) > 32) = true:=decide_eq_true p1
    by_cases p2:(b.toNat:Int) < 127
    ·have d2:decide ((b.toNat:Int) < 127) = true:=decide_eq_true p2
     by_cases p3:(b.toNat:Int) = 35
     ·have d3:((b.toNat:Int) != 35) = false:=by rw [p3];rfl
      have hs_:cleanL [b] = []:=by
       have:b.toNat = 35:=by omega
       simp [cleanL,this]
      have hc:=SK.out hs_
      clear p1 p2 p3 hs_
      have HCC:=Aside0.mk hc
      clear hc
      go_wp2
      go_roundg k1
      case measure=>have:=HX.out;omega
      case rel=>exact ⟨wrap64 (xi + 1),(by rw [HWR.out,HCC.out]),rfl,⟨by rw [HWR.out];have:=HX.out;omega⟩,HW3⟩
     ·have d3:((b.toNat:Int) != 35) = true:=bne_iff_ne.mpr p3
      have hk_:cleanL [b] = [b]:=by
       have:32 < b.toNat:=by omega
       have:b.toNat < 127:=by omega
       have:b.toNat ≠ 35:=by omega
       simp [cleanL, *]
      have hcat:cleanB (y.data.toList.take xi.toNat) ++ (⟨#[b]⟩:ByteArray) = cleanB (y.data.toList.take (xi + 1).toNat):=by
       apply ByteArray.ext
       rw [ByteArray.data_append]
       unfold cleanB
       rw [HST.out,hk_]
       simp
      have hsize:(cleanB (y.data.toList.take xi.toNat)).size + (⟨#[b]⟩:ByteArray).size ≤ 9223372036854775807:=by
       have h1:(cleanB (y.data.toList.take xi.toNat)).size = 1 + (cleanL (y.data.toList.take xi.toNat)).length:=by
        show ((119:UInt8) :: cleanL (y.data.toList.take xi.toNat)).toArray.size = _
        simp;omega
       have h2:(cleanL (y.data.toList.take xi.toNat)).length ≤ 10:=by
        unfold cleanL
        refine Nat.le_trans (List.length_filter_le _ _) ?_
        rw [List.length_take,data_length]
        have:=HYS.out;omega
       have h3:(⟨#[b]⟩:ByteArray).size = 1:=rfl
       omega
      obtain ⟨ob,hob⟩:∃ ob:ByteArray,ob = ⟨#[b]⟩:=⟨_,rfl⟩
      rw [← hob] at hcat hsize
      have s1:=decide_eq_true hsize
      have s2:(9223372036854775807 < (cleanB (y.data.toList.take xi.toNat)).size + ob.size) = False:=eq_false (Nat.not_lt.2 hsize)
      have kc2:(convert 34 9 (.slice (some ⟨wr.heap.size,0,none⟩) 1 1)).run Try.prog (wr.alloc (.cells #[.int .u8 (b.toNat:Int)] 5)) = .ok (.string ob) (wr.alloc (.cells #[.int .u8 (b.toNat:Int)] 5)):=by
       rw [hob]
       refine run_convert_bytes_back (P:=Try.prog) _ 34 9 5 ⟨wr.heap.size,0,none⟩ 1 [b] Try.underlying34 Try.underlying5 Try.underlying9 (fun j hj=>?_)
       obtain rfl:j = 0:=by simpa using hj
       exact World.cell?_alloc_at (w:=wr) #[.int .u8 (b.toNat:Int)] 5 wr.heap.size 0 rfl
      have HCT:=Aside0.mk hcat
      clear p1 p2 p3 hcat hsize hk_ hob
      go_wp2
      go_roundg k1
      case measure=>have:=HX.out;omega
      case rel=>exact ⟨wrap64 (xi + 1),(by rw [HWR.out,HCT.out]),rfl,⟨by rw [HWR.out];have:=HX.out;omega⟩,⟨by first|exact below_alloc HW3.out _|exact below_drew (below_alloc HW3.out _)⟩⟩
    ·have d2:decide ((b.toNat:Int) < 127) = false:=decide_eq_false p2
     have hs_:cleanL [b] = []:=by
      have:¬ b.toNat < 127:=by omega
      simp [cleanL,this]
     have hc:=SK.out hs_
     clear p1 p2 hs_
     have HCC:=Aside0.mk hc
     clear hc
     go_wp2
     go_roundg k1
     case measure=>have:=HX.out;omega
     case rel=>exact ⟨wrap64 (xi + 1),(by rw [HWR.out,HCC.out]),rfl,⟨by rw [HWR.out];have:=HX.out;omega⟩,HW3⟩
   ·have d1:decide ((b.toNat:Int) > 32) = false:=decide_eq_false p1
    have hs_:cleanL [b] = []:=by
     have:¬ 32 < b.toNat:=by omega
     simp [cleanL,this]
    have hc:=SK.out hs_
    clear p1 hs_
    have HCC:=Aside0.mk hc
    clear hc
    go_wp2
    go_roundg k1
    case measure=>have:=HX.out;omega
    case rel=>exact ⟨wrap64 (xi + 1),(by rw [HWR.out,HCC.out]),rfl,⟨by rw [HWR.out];have:=HX.out;omega⟩,HW3⟩
def q5.f (a0 a1:ByteArray):Option (Int):=match a1.data.toList with
 | [c]=>some (Lib.indexByte a0.data.toList c)
 | _=>none
theorem q5.calls (a0 a1:ByteArray) (r:Int) (w:World) (h:q5.f a0 a1 = some r) :
  Calls Try.prog 14 #[.string a0,.string a1] w fun e w'=>e = .returned (.int .i64 r) ∧ Drawn0 w w':=by
 unfold q5.f at h
 split at h
 ·rename_i c e
  obtain rfl:=Option.some.inj h
  obtain rfl:a1 = ⟨#[c]⟩:=by
   cases a1 with
   | mk d =>
    congr 1
    apply Array.toList_inj.1
    exact e
  refine (Try.stringslite_Index_one a0 c w).mono ?_
  rintro e' w' ⟨rfl,rfl⟩
  exact ⟨rfl,Drawn0.refl _⟩
 ·exact absurd h (by simp)
def q6.f (a0:ByteArray) (a1:ByteArray):Option (ByteArray × ByteArray × Bool):=(q5.f a0 a1).bind fun t101=>(if t101 ≥ 0 then (if 0 ≤ t101 then (if t101 ≤ (a0.size:Int) then (if 0 ≤ (wrap64 (t101 + (a1.size:Int))) then (if (wrap64 (t101 + (a1.size:Int))) ≤ (a0.size:Int) then (some (a0.extract 0 (t101:Int).toNat,a0.extract ((wrap64 (t101 + (a1.size:Int))):Int).toNat a0.size,true)) else (none)) else (none)) else (none)) else (none)) else (some (a0,(⟨#[]⟩:ByteArray),false)))
set_option maxHeartbeats 8000000 in
set_option maxRecDepth 100000 in
theorem q6.calls (a0:ByteArray) (a1:ByteArray) (r1:ByteArray) (r2:ByteArray) (r3:Bool) (w:World) (h:q6.f a0 a1 = some (r1,r2,r3)) :
  Calls Try.prog 13 #[.string a0,.string a1] w fun e w'=>e = .returned (.tuple #[.string r1,.string r2,.bool r3]) ∧ Drawn0 w w':=by
 have H:((q5.f a0 a1).bind fun t101=>(if t101 ≥ 0 then (if 0 ≤ t101 then (if t101 ≤ (a0.size:Int) then (if 0 ≤ (wrap64 (t101 + (a1.size:Int))) then (if (wrap64 (t101 + (a1.size:Int))) ≤ (a0.size:Int) then (some (a0.extract 0 (t101:Int).toNat,a0.extract ((wrap64 (t101 + (a1.size:Int))):Int).toNat a0.size,true)) else (none)) else (none)) else (none)) else (none)) else (some (a0,(⟨#[]⟩:ByteArray),false)))) = some (r1,r2,r3):=h
 clear h
 replace H:=Option.bind_eq_some_iff.mp H
 obtain ⟨t101,A30,H⟩:=H
 replace H:(if t101 ≥ 0 then (if 0 ≤ t101 then (if t101 ≤ (a0.size:Int) then (if 0 ≤ (wrap64 (t101 + (a1.size:Int))) then (if (wrap64 (t101 + (a1.size:Int))) ≤ (a0.size:Int) then (some (a0.extract 0 (t101:Int).toNat,a0.extract ((wrap64 (t101 + (a1.size:Int))):Int).toNat a0.size,true)) else (none)) else (none)) else (none)) else (none)) else (some (a0,(⟨#[]⟩:ByteArray),false))) = some (r1,r2,r3):=H
 have A3:=Aside0.mk A30
 clear A30
 by_cases c4:t101 ≥ 0
 ·rw [if_pos c4] at H
  have c4b0:decide (0 ≤ t101) = true:=decide_eq_true c4
  clear c4
  by_cases c5:0 ≤ t101
  ·rw [if_pos c5] at H
   have c5b0:=eq_true c5
   have c5b1:decide (0 ≤ t101) = true:=decide_eq_true c5
   clear c5
   by_cases c6:t101 ≤ (a0.size:Int)
   ·rw [if_pos c6] at H
    have c6b0:=eq_true c6
    have c6b1:decide (t101 ≤ (a0.size:Int)) = true:=decide_eq_true c6
    clear c6
    obtain ⟨ji7,hji7⟩:∃ j_:Int,(wrap64 (t101 + (a1.size:Int))) = j_:=⟨_,rfl⟩
    replace H:(if 0 ≤ (ji7) then (if (ji7) ≤ (a0.size:Int) then (some (a0.extract 0 (t101:Int).toNat,a0.extract ((ji7):Int).toNat a0.size,true)) else (none)) else (none)) = some (r1,r2,r3):=by first|(rw [hji7] at H;exact H)|(simp only [hji7] at H ⊢;exact H)
    (try rw [hji7] at A3)
    have hji7w:(IntKind.i64.wrap (t101 + (a1.size:Int))) = ji7:=(i64_w _).trans hji7
    by_cases c8:0 ≤ (ji7)
    ·rw [if_pos c8] at H
     have c8b0:=eq_true c8
     have c8b1:decide (0 ≤ (ji7)) = true:=decide_eq_true c8
     clear c8
     by_cases c9:(ji7) ≤ (a0.size:Int)
     ·rw [if_pos c9] at H
      have c9b0:=eq_true c9
      have c9b1:decide ((ji7) ≤ (a0.size:Int)) = true:=decide_eq_true c9
      clear c9
      simp only [Option.some.injEq,Prod.mk.injEq] at H
      obtain ⟨rfl,rfl,rfl⟩:=H
      go_enter Try.func13,Try.ntmps13
      go_wp2_with (first|(go_at_call 14;(with_reducible refine (q5.calls a0 a1 t101 _ A3.out).mono ?_);rintro e w' ⟨rfl,⟨nd,rfl⟩⟩;(try first|exact ⟨rfl,_,World.drewN_drewN _ _ _⟩|exact ⟨rfl,_,Eq.trans (World.drewN_drewN _ _ _) (congrArg (World.drewN _) (Nat.add_assoc _ _ _))⟩)))
      repeat (go_quiet (first|(go_at_call 14;(with_reducible refine (q5.calls a0 a1 t101 _ A3.out).mono ?_);rintro e w' ⟨rfl,⟨nd,rfl⟩⟩;(try first|exact ⟨rfl,_,World.drewN_drewN _ _ _⟩|exact ⟨rfl,_,Eq.trans (World.drewN_drewN _ _ _) (congrArg (World.drewN _) (Nat.add_assoc _ _ _))⟩)));try go_wp2_with (first|(go_at_call 14;(with_reducible refine (q5.calls a0 a1 t101 _ A3.out).mono ?_);rintro e w' ⟨rfl,⟨nd,rfl⟩⟩;(try first|exact ⟨rfl,_,World.drewN_drewN _ _ _⟩|exact ⟨rfl,_,Eq.trans (World.drewN_drewN _ _ _) (congrArg (World.drewN _) (Nat.add_assoc _ _ _))⟩))))
      go_ret3
      exact ⟨by first|rfl|(simp;done)|(simp only [← hji7] <;> (first|rfl|simp))|(simp [*];done),by repeat (first|exact Drawn0.refl _|apply Drawn0.step)⟩
     ·rw [if_neg c9] at H
      exact absurd H (by simp)
    ·rw [if_neg c8] at H
     exact absurd H (by simp)
   ·rw [if_neg c6] at H
    exact absurd H (by simp)
  ·rw [if_neg c5] at H
   exact absurd H (by simp)
 ·rw [if_neg c4] at H
  have c4b0:decide (0 ≤ t101) = false:=decide_eq_false c4
  clear c4
  simp only [Option.some.injEq,Prod.mk.injEq] at H
  obtain ⟨rfl,rfl,rfl⟩:=H
  go_enter Try.func13,Try.ntmps13
  go_wp2_with (first|(go_at_call 14;(with_reducible refine (q5.calls a0 a1 t101 _ A3.out).mono ?_);rintro e w' ⟨rfl,⟨nd,rfl⟩⟩;(try first|exact ⟨rfl,_,World.drewN_drewN _ _ _⟩|exact ⟨rfl,_,Eq.trans (World.drewN_drewN _ _ _) (congrArg (World.drewN _) (Nat.add_assoc _ _ _))⟩)))
  repeat (go_quiet (first|(go_at_call 14;(with_reducible refine (q5.calls a0 a1 t101 _ A3.out).mono ?_);rintro e w' ⟨rfl,⟨nd,rfl⟩⟩;(try first|exact ⟨rfl,_,World.drewN_drewN _ _ _⟩|exact ⟨rfl,_,Eq.trans (World.drewN_drewN _ _ _) (congrArg (World.drewN _) (Nat.add_assoc _ _ _))⟩)));try go_wp2_with (first|(go_at_call 14;(with_reducible refine (q5.calls a0 a1 t101 _ A3.out).mono ?_);rintro e w' ⟨rfl,⟨nd,rfl⟩⟩;(try first|exact ⟨rfl,_,World.drewN_drewN _ _ _⟩|exact ⟨rfl,_,Eq.trans (World.drewN_drewN _ _ _) (congrArg (World.drewN _) (Nat.add_assoc _ _ _))⟩))))
  go_ret3
  exact ⟨by first|rfl|(simp;done)|(simp [*];done),by repeat (first|exact Drawn0.refl _|apply Drawn0.step)⟩
def q7.f (a0:ByteArray) (a1:ByteArray):Option (ByteArray × ByteArray × Bool):=(q6.f a0 a1).bind fun bt101=>(some (bt101.1,bt101.2.1,bt101.2.2))
set_option maxHeartbeats 8000000 in
set_option maxRecDepth 100000 in
theorem q7.calls (a0:ByteArray) (a1:ByteArray) (r1:ByteArray) (r2:ByteArray) (r3:Bool) (w:World) (h:q7.f a0 a1 = some (r1,r2,r3)) :
  Calls Try.prog 12 #[.string a0,.string a1] w fun e w'=>e = .returned (.tuple #[.string r1,.string r2,.bool r3]) ∧ Drawn0 w w':=by
 have H:((q6.f a0 a1).bind fun bt101=>(some (bt101.1,bt101.2.1,bt101.2.2))) = some (r1,r2,r3):=h
 clear h
 replace H:=Option.bind_eq_some_iff.mp H
 obtain ⟨⟨t101,t102,t103⟩,A30,H⟩:=H
 replace H:(some (t101,t102,t103)) = some (r1,r2,r3):=H
 have A3:=Aside0.mk A30
 clear A30
 simp only [Option.some.injEq,Prod.mk.injEq] at H
 obtain ⟨rfl,rfl,rfl⟩:=H
 go_enter Try.func12,Try.ntmps12
 go_wp2_with (first|((with_reducible refine gate_callee (f:=13) rfl ?_);refine goesL_ (some 9) rfl rfl Try.func13 (by kernel_rfl) rfl #[.string a0,.string a1] rfl oF ?_;(with_reducible refine (q6.calls a0 a1 t101 t102 t103 _ A3.out).mono ?_);rintro e w' ⟨rfl,⟨nd,rfl⟩⟩;refine ⟨_,rfl,?_⟩))
 go_ret3
 exact ⟨by first|rfl|(simp;done)|(simp [*];done),by repeat (first|exact Drawn0.refl _|apply Drawn0.step)⟩
mutual
def q8.l0:Nat → ByteArray → List (S28) → Int → Option ((List (S28)) × Int)
 | 0,_,_,_=>none
 | k + 1,x0,x2,x4=>if x4 < (x0.size:Int) then (if 0 ≤ x4 then (if (bt x0 x4) < 32 then (some (([]:List (S28)),wrap64 (x4 + 1))) else (if (bt x0 x4) > 126 then (some (([]:List (S28)),wrap64 (x4 + 1))) else (q8.l0 k x0 x2 (wrap64 (x4 + 1))))) else (none)) else (q8.l1 k x0 x2 0)
def q8.l1:Nat → ByteArray → List (S28) → Int → Option ((List (S28)) × Int)
 | 0,_,_,_=>none
 | k + 1,x0,x2,x5=>if x5 < (x0.size:Int) then (if 0 ≤ x5 then (if (bt x0 x5) = 32 then (q8.l1 k x0 x2 (wrap64 (x5 + 1))) else (if x5 ≤ (x0.size:Int) then ((q7.f (x0.extract (x5:Int).toNat x0.size) (⟨#[32]⟩:ByteArray)).bind fun bt104=>(if x2.length < 5864062014805 then (q8.l1 k x0 (x2 ++ [(⟨bt104.1,wrap64 (x5 + 1)⟩:S28)]) (wrap64 (x5 + (bt104.1.size:Int)))) else (none))) else (none))) else (none)) else (some (x2,0))
end
def q8.f (k:Nat) (a0:ByteArray):Option ((List (S28)) × Int):=(q7.f a0 (⟨#[35]⟩:ByteArray)).bind fun bt101=>(q8.l0 k bt101.1 ([]:List (S28)) 0)
theorem q8.mono_l:∀ k,(∀ y0 y1 y2,LeO (q8.l0 k y0 y1 y2) (q8.l0 (k + 1) y0 y1 y2)) ∧ (∀ y0 y1 y2,LeO (q8.l1 k y0 y1 y2) (q8.l1 (k + 1) y0 y1 y2))
 | 0=>⟨fun _ _ _ r h=>by simp [q8.l0] at h,fun _ _ _ r h=>by simp [q8.l1] at h⟩
 | k + 1=>by
  obtain ⟨ih0,ih1⟩:=q8.mono_l k
  refine ⟨?_,?_⟩
  ·intro y0 y1 y2
   unfold q8.l0
   repeat' first
   | (with_reducible exact ih0 _ _ _)
   | (with_reducible exact ih1 _ _ _)
   | (with_reducible exact LeO.refl _)
   | (with_reducible exact LeO.none _)
   | (with_reducible refine LeO.ite ?_ ?_)
   | (with_reducible refine LeO.bind ?_ (fun _=>?_))
   | exact ih0 _ _ _
   | exact ih1 _ _ _
   | exact LeO.none _
   | refine LeO.ite ?_ ?_
   | refine LeO.bind ?_ (fun _=>?_)
  ·intro y0 y1 y2
   unfold q8.l1
   repeat' first
   | (with_reducible exact ih0 _ _ _)
   | (with_reducible exact ih1 _ _ _)
   | (with_reducible exact LeO.refl _)
   | (with_reducible exact LeO.none _)
   | (with_reducible refine LeO.ite ?_ ?_)
   | (with_reducible refine LeO.bind ?_ (fun _=>?_))
   | exact ih0 _ _ _
   | exact ih1 _ _ _
   | exact LeO.none _
   | refine LeO.ite ?_ ?_
   | refine LeO.bind ?_ (fun _=>?_)
theorem q8.mono:∀ a0 k,LeO (q8.f k a0) (q8.f (k + 1) a0):=by
 intro a0 k
 obtain ⟨ih0,ih1⟩:=q8.mono_l k
 unfold q8.f
 repeat' first
   | (with_reducible exact ih0 _ _ _)
   | (with_reducible exact ih1 _ _ _)
   | (with_reducible exact LeO.refl _)
   | (with_reducible exact LeO.none _)
   | (with_reducible refine LeO.ite ?_ ?_)
   | (with_reducible refine LeO.bind ?_ (fun _=>?_))
   | exact ih0 _ _ _
   | exact ih1 _ _ _
   | exact LeO.none _
   | refine LeO.ite ?_ ?_
   | refine LeO.bind ?_ (fun _=>?_)
set_option maxHeartbeats 8000000 in
set_option maxRecDepth 100000 in
theorem q8.calls (k:Nat) (a0:ByteArray) (r1:List (S28)) (r2:Int) (w:World) (h:q8.f k a0 = some (r1,r2)) :
  Calls Try.prog 8 #[.string a0] w fun e w'=>∃ v0_:Value,e = .returned (.tuple #[v0_,.int .i64 r2]) ∧ Kd.R k28 28 w' w.heap.size (fun _=>True) v0_ r1 ∧ Below w.heap.size w w':=by
 have hu28:=Try.underlying28
 have HB:=zk (Below.refl w.heap.size w)
 have H:((q7.f a0 (⟨#[35]⟩:ByteArray)).bind fun bt101=>(q8.l0 k bt101.1 ([]:List (S28)) 0)) = some (r1,r2):=h
 clear h
 replace H:=Option.bind_eq_some_iff.mp H
 obtain ⟨⟨t101,t102,t103⟩,A20,H⟩:=H
 replace H:(q8.l0 k t101 ([]:List (S28)) 0) = some (r1,r2):=H
 have A2:=Aside0.mk A20
 clear A20
 have H':=Aside0.mk H
 clear H
 go_enter Try.func8,Try.ntmps8
 go_wp2_with (first|((with_reducible refine gate_callee (f:=12) rfl ?_);refine goesL_ (some 11) rfl rfl Try.func12 (by kernel_rfl) rfl #[.string a0,.string (⟨#[35]⟩:ByteArray)] rfl oF ?_;(with_reducible refine (q7.calls a0 (⟨#[35]⟩:ByteArray) t101 t102 t103 _ A2.out).mono ?_);rintro e w' ⟨rfl,⟨nd,rfl⟩⟩;refine ⟨_,rfl,?_⟩))
 go_loopg [2,4] k (fun kq v2 v4 w'=>∃ (x2_1:List (S28)) (x4_1:Int),v4 = .int .i64 x4_1 ∧ Aside0 (q8.l0 kq t101 x2_1 x4_1 = some (r1,r2)) ∧ Aside0 (kq ≤ k) ∧ Aside0 (Kd.R k28 28 w' w.heap.size (fun _=>True) v2 x2_1) ∧ Aside0 (Below w.heap.size w w'))
 case atStart=>exact ⟨(([]:List (S28))),(0),oE,H',⟨Nat.le_refl _⟩,⟨by first|exact Kd.R_nil _ _ _ _ _|exact Kd.N_nil _ _ _ _ _|exact Kd.V_nil _ _ _ _ _|exact Kd.Q_nil _ _ _ _ _|exact Kd.S_nil _ _ _ _ _⟩,⟨bq HB.out⟩⟩
 case round =>
  clear H'
  try clear c1
  try clear p2
  obtain ⟨x2_1,x4_1,rfl,HA,HK1,HO_2,HB⟩:=hrel
  cases gk with
  | zero=>exact absurd HA.out (by simp [q8.l0])
  | succ k1 =>
   have H:=HA.out
   clear HA
   simp only [q8.l0] at H
   by_cases c3:x4_1 < (t101.size:Int)
   ·rw [if_pos c3] at H
    have c3b0:decide (x4_1 < (t101.size:Int)) = true:=decide_eq_true c3
    clear c3
    by_cases c4:0 ≤ x4_1
    ·rw [if_pos c4] at H
     have c4b0:decide (0 ≤ x4_1) = true:=decide_eq_true c4
     clear c4
     by_cases c6:(bt t101 x4_1) < 32
     ·rw [if_pos c6] at H
      have c6b0:decide ((bt t101 x4_1) < 32) = true:=decide_eq_true c6
      clear c6
      simp only [Option.some.injEq,Prod.mk.injEq] at H
      obtain ⟨rfl,rfl⟩:=H
      have p5:0 ≤ (x4_1:Int):=oA
      have q5:x4_1 < (t101.size:Int):=oA
      have hx5:=bt_at t101 x4_1
      replace p5:=eq_true p5
      replace q5:=eq_true q5
      go_wp2
      go_ret2
      exact ⟨_,by first|rfl|(simp [errW_none,errW_some] <;> rfl)|(simp [*,errW_none,errW_some] <;> rfl),by first|exact Kd.R_nil _ _ _ _ _|exact Kd.N_nil _ _ _ _ _|exact Kd.V_nil _ _ _ _ _|exact Kd.Q_nil _ _ _ _ _|exact Kd.S_nil _ _ _ _ _,bq HB.out⟩
     ·rw [if_neg c6] at H
      have c6b0:decide ((bt t101 x4_1) < 32) = false:=decide_eq_false c6
      clear c6
      by_cases c8:(bt t101 x4_1) > 126
      ·rw [if_pos c8] at H
       have c8b0:decide (126 < (bt t101 x4_1)) = true:=decide_eq_true c8
       clear c8
       simp only [Option.some.injEq,Prod.mk.injEq] at H
       obtain ⟨rfl,rfl⟩:=H
       have p5:0 ≤ (x4_1:Int):=oA
       have q5:x4_1 < (t101.size:Int):=oA
       have hx5:=bt_at t101 x4_1
       replace p5:=eq_true p5
       replace q5:=eq_true q5
       have p7:0 ≤ (x4_1:Int):=oA
       have q7:x4_1 < (t101.size:Int):=oA
       have hx7:=bt_at t101 x4_1
       replace p7:=eq_true p7
       replace q7:=eq_true q7
       go_wp2
       go_ret2
       exact ⟨_,by first|rfl|(simp [errW_none,errW_some] <;> rfl)|(simp [*,errW_none,errW_some] <;> rfl),by first|exact Kd.R_nil _ _ _ _ _|exact Kd.N_nil _ _ _ _ _|exact Kd.V_nil _ _ _ _ _|exact Kd.Q_nil _ _ _ _ _|exact Kd.S_nil _ _ _ _ _,bq HB.out⟩
      ·rw [if_neg c8] at H
       have c8b0:decide (126 < (bt t101 x4_1)) = false:=decide_eq_false c8
       clear c8
       have H':=Aside0.mk H
       clear H
       have p5:0 ≤ (x4_1:Int):=oA
       have q5:x4_1 < (t101.size:Int):=oA
       have hx5:=bt_at t101 x4_1
       replace p5:=eq_true p5
       replace q5:=eq_true q5
       have p7:0 ≤ (x4_1:Int):=oA
       have q7:x4_1 < (t101.size:Int):=oA
       have hx7:=bt_at t101 x4_1
       replace p7:=eq_true p7
       replace q7:=eq_true q7
       go_wp2
       go_roundg k1
       case measure=>have:=HK1.out;omega
       case rel=>exact ⟨(x2_1),(wrap64 (x4_1 + 1)),oE,H',⟨by have:=HK1.out;omega⟩,⟨rq HO_2.out⟩,⟨bq HB.out⟩⟩
    ·rw [if_neg c4] at H
     exact absurd H (by simp)
   ·rw [if_neg c3] at H
    have c3b0:decide (x4_1 < (t101.size:Int)) = false:=decide_eq_false c3
    clear c3
    have H':=Aside0.mk H
    clear H
    go_wp2
    go_loopg [2,5] k1 (fun kq v2 v5 w'=>∃ (x2_2:List (S28)) (x5_2:Int),v5 = .int .i64 x5_2 ∧ Aside0 (q8.l1 kq t101 x2_2 x5_2 = some (r1,r2)) ∧ Aside0 (kq ≤ k1) ∧ Aside0 (Kd.R k28 28 w' w.heap.size (fun _=>True) v2 x2_2) ∧ Aside0 (Below w.heap.size w w'))
    case atStart=>exact ⟨(x2_1),(0),oE,H',⟨Nat.le_refl _⟩,⟨rq HO_2.out⟩,⟨bq HB.out⟩⟩
    case round =>
     clear H'
     try clear c1
     try clear p2
     try clear c3
     try clear c3b0
     try clear c4
     try clear c4b0
     try clear p5
     try clear q5
     try clear hx5
     try clear c6
     try clear c6b0
     try clear p6
     try clear p7
     try clear q7
     try clear hx7
     try clear c8
     try clear c8b0
     try clear p2
     try clear p5
     try clear p7
     try clear q5
     try clear q7
     obtain ⟨x2_2,x5_2,rfl,HA,HK2,HO_2,HB⟩:=hrel
     cases gk with
     | zero=>exact absurd HA.out (by simp [q8.l1])
     | succ k2 =>
      have H:=HA.out
      clear HA
      simp only [q8.l1] at H
      by_cases c9:x5_2 < (t101.size:Int)
      ·rw [if_pos c9] at H
       have c9b0:decide (x5_2 < (t101.size:Int)) = true:=decide_eq_true c9
       clear c9
       by_cases c10:0 ≤ x5_2
       ·rw [if_pos c10] at H
        have c10b0:decide (0 ≤ x5_2) = true:=decide_eq_true c10
        clear c10
        by_cases c12:(bt t101 x5_2) = 32
        ·rw [if_pos c12] at H
         have c12b0:((bt t101 x5_2) == 32) = true:=beq_iff_eq.mpr c12
         have c12b1:((bt t101 x5_2) != 32) = false:=bne_eq_false_iff_eq.mpr c12
         clear c12
         have H':=Aside0.mk H
         clear H
         have p11:0 ≤ (x5_2:Int):=oA
         have q11:x5_2 < (t101.size:Int):=oA
         have hx11:=bt_at t101 x5_2
         replace p11:=eq_true p11
         replace q11:=eq_true q11
         go_wp2
         go_roundg k2
         case measure=>have:=HK1.out;have:=HK2.out;omega
         case rel=>exact ⟨(x2_2),(wrap64 (x5_2 + 1)),oE,H',⟨by have:=HK1.out;have:=HK2.out;omega⟩,⟨rq HO_2.out⟩,⟨bq HB.out⟩⟩
        ·rw [if_neg c12] at H
         have c12b0:((bt t101 x5_2) == 32) = false:=beq_eq_false_iff_ne.mpr c12
         have c12b1:((bt t101 x5_2) != 32) = true:=bne_iff_ne.mpr c12
         have c13b0:=eq_true (oA:0 ≤ x5_2)
         by_cases c14:x5_2 ≤ (t101.size:Int)
         ·rw [if_pos c14] at H
          have c14b0:=eq_true c14
          have c14b1:decide (x5_2 ≤ (t101.size:Int)) = true:=decide_eq_true c14
          clear c14
          replace H:=Option.bind_eq_some_iff.mp H
          obtain ⟨⟨t104,t105,t106⟩,A150,H⟩:=H
          replace H:(if x2_2.length < 5864062014805 then (q8.l1 k2 t101 (x2_2 ++ [(⟨t104,wrap64 (x5_2 + 1)⟩:S28)]) (wrap64 (x5_2 + (t104.size:Int)))) else (none)) = some (r1,r2):=H
          have A15:=Aside0.mk A150
          clear A150
          by_cases c16:x2_2.length < 5864062014805
          ·rw [if_pos c16] at H
           have LMc16:=Aside0.mk c16
           clear c16
           obtain ⟨y107,hy107⟩:∃ y_:List (S28),y_ = (x2_2 ++ [(⟨t104,wrap64 (x5_2 + 1)⟩:S28)]):=⟨_,rfl⟩
           replace H:(q8.l1 k2 t101 y107 (wrap64 (x5_2 + (t104.size:Int)))) = some (r1,r2):=by first|(rw [hy107];with_reducible exact H)|(have H2_:=(Option.bind_some _ _).symm.trans H;rw [hy107];with_reducible exact H2_)|(have H2_:=(Option.bind_some _ _).symm.trans H;with_reducible exact H2_)|with_reducible exact H|(rw [hy107];exact H)|exact H
           have Ny107:=Aside0.mk hy107
           clear hy107
           have H':=Aside0.mk H
           clear H
           have p11:0 ≤ (x5_2:Int):=oA
           have q11:x5_2 < (t101.size:Int):=oA
           have hx11:=bt_at t101 x5_2
           replace p11:=eq_true p11
           replace q11:=eq_true q11
           go_wp2_with (first|((with_reducible refine gate_callee (f:=12) rfl ?_);refine goesL_ (some 47) rfl rfl Try.func12 (by kernel_rfl) rfl #[.string (t101.extract (x5_2:Int).toNat t101.size),.string (⟨#[32]⟩:ByteArray)] rfl oF ?_;(with_reducible refine (q7.calls (t101.extract (x5_2:Int).toNat t101.size) (⟨#[32]⟩:ByteArray) t104 t105 t106 _ A15.out).mono ?_);rintro e w' ⟨rfl,⟨nd,rfl⟩⟩;refine ⟨_,rfl,?_⟩)|((with_reducible refine gate_builtin (b:=.append) (xs:=#[.tmp 51,.tmp 56]) rfl ?_);at_builtin;refine Kd.R_append k28 (w0:=w) w.heap.size rfl (.tmp 51) (.tmp 56) 24 28 (.agg #[(.string ⟨#[]⟩),(.int .i64 0)]) 24 rfl Try.underlying24 info28 rfl (by decide) (by omega) u2 x2_2 (⟨t104,wrap64 (x5_2 + 1)⟩:S28) [.string t104,.int .i64 (wrap64 (x5_2 + 1))] (fun _=>True) (fun _=>False) rfl rfl ?aP (fun _ hk=>hk.elim) ?aF ?aO ?aB ?aS ?aL ?_;(case aP=>exact k28_mkM _ _ _ (⟨t104,wrap64 (x5_2 + 1)⟩:S28));(case aB=>exact (bq HB.out));(case aF=>exact (fun _ _=>trivial));(case aO=>exact (rq HO_2.out));(case aS=>exact (below_size (bq HB.out)));(case aL=>have:=LMc16.out;omega);intro v108 w17 ho hb hg hat;rw [← Ny107.out] at ho;have n0_:=zk (hb);have n1_:=zk (ho);clear HB;clear HO_2;have HB:=n0_;have HO109:=n1_;clear n0_ n1_;clear ho hb hg hat))
           go_roundg k2
           case measure=>have:=HK1.out;have:=HK2.out;omega
           case rel=>exact ⟨(y107),(wrap64 (x5_2 + (t104.size:Int))),oE,H',⟨by have:=HK1.out;have:=HK2.out;omega⟩,⟨rq HO109.out⟩,⟨bq HB.out⟩⟩
          ·rw [if_neg c16] at H
           exact absurd H (by simp)
         ·rw [if_neg c14] at H
          exact absurd H (by simp)
       ·rw [if_neg c10] at H
        exact absurd H (by simp)
      ·rw [if_neg c9] at H
       have c9b0:decide (x5_2 < (t101.size:Int)) = false:=decide_eq_false c9
       clear c9
       simp only [Option.some.injEq,Prod.mk.injEq] at H
       obtain ⟨rfl,rfl⟩:=H
       go_wp2
       go_ret2
       exact ⟨_,by first|rfl|(simp [errW_none,errW_some] <;> rfl)|(simp [*,errW_none,errW_some] <;> rfl),rq HO_2.out,bq HB.out⟩
theorem eqA28 (d:Nat) (w:World) (x0 y0:ByteArray) (x1 y1:Int) :
  (Op.equalIn (d + 2) 28 (.agg #[.string x0,.int .i64 x1]) (.agg #[.string y0,.int .i64 y1])).run Try.prog w = .ok (x0.toList == y0.toList && (x1 == y1)) w:=by
 refine eqA_of Try.underlying28 (by kernel_rfl) ?_
 refine eqf_cons (by rfl) (by go_simp;rfl) (by go_simp;rfl) (by go_simp) ?_
 exact eqf_last (by rfl) (by go_simp;rfl) (by go_simp;rfl) (by go_simp)
end Go.Proofs.Ytniohifoimhbkaa.Q
namespace Go.Proofs.Ytniohifoimhbkaa.Q
open Go.RowKit Go.Proofs.YtniohifoimhbkaaW.PrintWords Go.Proofs.YtniohifoimhbkaaW.PrintLast Go.Proofs.YtniohifoimhbkaaW.PrintMore
attribute [local go_sem] max2_int min2_int max_two min_two max_three min_three max_four min_four
set_option linter.unusedVariables false
set_option linter.unusedSimpArgs false
attribute [local go_sem high] eqA28
def q9.l0:Nat → List (S28) → List (S28) → Int → Option (Bool)
 | 0,_,_,_=>none
 | k + 1,x0,x1,x5=>if x5 < (x0.length:Int) then (if 0 ≤ x5 then (if x5 < (x1.length:Int) then (if (!((((rd_T28 x0 x5).f0).toList) == (((rd_T28 x1 x5).f0).toList)) || (!(((rd_T28 x0 x5).f1) == ((rd_T28 x1 x5).f1)))) = true then (some false) else (q9.l0 k x0 x1 (wrap64 (x5 + 1)))) else (none)) else (none)) else (some true)
def q9.f (k:Nat) (l0:List (S28)) (l1:List (S28)):Option (Bool):=if (l0.length:Int) = (l1.length:Int) then (q9.l0 k l0 l1 0) else (some false)
set_option maxHeartbeats 8000000 in
set_option maxRecDepth 100000 in
theorem q9.calls (k:Nat) (A0:Option Addr) (c0:Nat) (l0:List (S28)) (A1:Option Addr) (c1:Nat) (l1:List (S28)) (r:Bool) (w:World) (hr0:Kd.C k28 w A0 l0.length l0) (hc0:l0.length ≤ c0) (hr1:Kd.C k28 w A1 l1.length l1) (hc1:l1.length ≤ c1) (h:q9.f k l0 l1 = some r) :
  Calls Try.prog 9 #[.slice A0 l0.length c0,.slice A1 l1.length c1] w fun e w'=>e = .returned (.bool r) ∧ Drawn0 w w':=by
 have hu28:=Try.underlying28
 have HR0:=Aside0.mk hr0
 have HC0:=Aside0.mk hc0
 clear hr0 hc0
 have HR1:=Aside0.mk hr1
 have HC1:=Aside0.mk hc1
 clear hr1 hc1
 have H:(if (l0.length:Int) = (l1.length:Int) then (q9.l0 k l0 l1 0) else (some false)) = some r:=h
 clear h
 by_cases c3:(l0.length:Int) = (l1.length:Int)
 ·rw [if_pos c3] at H
  have c3b0:((l0.length:Int) == (l1.length:Int)) = true:=beq_iff_eq.mpr c3
  have c3b1:((l0.length:Int) != (l1.length:Int)) = false:=bne_eq_false_iff_eq.mpr c3
  have c3b2:(l0.length == l1.length) = true:=by first|simpa using c3|(simp at c3 ⊢;omega)
  clear c3
  have H':=Aside0.mk H
  clear H
  go_enter Try.func9,Try.ntmps9
  go_wp2
  repeat (go_quiet (fail);try go_wp2)
  go_loopg [5] k (fun kq v5 w'=>∃ (x5_1:Int),v5 = .int .i64 x5_1 ∧ Aside0 (q9.l0 kq l0 l1 x5_1 = some r) ∧ Aside0 (kq ≤ k) ∧ Drawn0 w w')
  case atStart=>exact ⟨(0),oE,H',⟨Nat.le_refl _⟩,by repeat (first|exact Drawn0.refl _|apply Drawn0.step)⟩
  case round =>
   clear H'
   try clear c1
   try clear p2
   try clear c3
   try clear c3b0
   try clear c3b1
   try clear c3b2
   obtain ⟨x5_1,rfl,HA,HK1,⟨m1,rfl⟩⟩:=hrel
   cases gk with
   | zero=>exact absurd HA.out (by simp [q9.l0])
   | succ k1 =>
    have H:=HA.out
    clear HA
    simp only [q9.l0] at H
    by_cases c4:x5_1 < (l0.length:Int)
    ·rw [if_pos c4] at H
     have c4b0:decide (x5_1 < (l0.length:Int)) = true:=decide_eq_true c4
     clear c4
     by_cases c5:0 ≤ x5_1
     ·rw [if_pos c5] at H
      have c5b0:decide (0 ≤ x5_1) = true:=decide_eq_true c5
      clear c5
      by_cases c6:x5_1 < (l1.length:Int)
      ·rw [if_pos c6] at H
       have c6b0:decide (x5_1 < (l1.length:Int)) = true:=decide_eq_true c6
       clear c6
       by_cases c7:(!((((rd_T28 l0 x5_1).f0).toList) == (((rd_T28 l1 x5_1).f0).toList)) || (!(((rd_T28 l0 x5_1).f1) == ((rd_T28 l1 x5_1).f1)))) = true
       ·rw [if_pos c7] at H
        have c7b0:(!((((rd_T28 l0 x5_1).f0).toList) == (((rd_T28 l1 x5_1).f0).toList)) || (!(((rd_T28 l0 x5_1).f1) == ((rd_T28 l1 x5_1).f1)))) = true:=c7
        clear c7
        obtain rfl:=Option.some.inj H
        have p101:0 ≤ (x5_1:Int):=oA
        have q101:x5_1 < (l0.length:Int):=oA
        obtain ⟨ad101,e101,hx101_0,hx101_1⟩:=at_T28 HR0.out x5_1 p101 q101
        cases e101
        replace p101:=eq_true p101
        replace q101:=eq_true q101
        have p102:0 ≤ (x5_1:Int):=oA
        have q102:x5_1 < (l1.length:Int):=oA
        obtain ⟨ad102,e102,hx102_0,hx102_1⟩:=at_T28 HR1.out x5_1 p102 q102
        cases e102
        replace p102:=eq_true p102
        replace q102:=eq_true q102
        go_wp2
        repeat (go_quiet (fail);try go_wp2)
        go_ret
        exact ⟨by first|rfl|(simp;done)|(simp [*];done),by repeat (first|exact Drawn0.refl _|apply Drawn0.step)⟩
       ·rw [if_neg c7] at H
        have c7b0:(!((((rd_T28 l0 x5_1).f0).toList) == (((rd_T28 l1 x5_1).f0).toList)) || (!(((rd_T28 l0 x5_1).f1) == ((rd_T28 l1 x5_1).f1)))) = false:=by simpa using c7
        clear c7
        have H':=Aside0.mk H
        clear H
        have p101:0 ≤ (x5_1:Int):=oA
        have q101:x5_1 < (l0.length:Int):=oA
        obtain ⟨ad101,e101,hx101_0,hx101_1⟩:=at_T28 HR0.out x5_1 p101 q101
        cases e101
        replace p101:=eq_true p101
        replace q101:=eq_true q101
        have p102:0 ≤ (x5_1:Int):=oA
        have q102:x5_1 < (l1.length:Int):=oA
        obtain ⟨ad102,e102,hx102_0,hx102_1⟩:=at_T28 HR1.out x5_1 p102 q102
        cases e102
        replace p102:=eq_true p102
        replace q102:=eq_true q102
        go_wp2
        repeat (go_quiet (fail);try go_wp2)
        go_roundg k1
        case measure=>have:=HK1.out;omega
        case rel=>exact ⟨(wrap64 (x5_1 + 1)),oE,H',⟨by have:=HK1.out;omega⟩,by repeat (first|exact Drawn0.refl _|apply Drawn0.step)⟩
      ·rw [if_neg c6] at H
       exact absurd H (by simp)
     ·rw [if_neg c5] at H
      exact absurd H (by simp)
    ·rw [if_neg c4] at H
     have c4b0:decide (x5_1 < (l0.length:Int)) = false:=decide_eq_false c4
     clear c4
     obtain rfl:=Option.some.inj H
     go_wp2
     repeat (go_quiet (fail);try go_wp2)
     go_ret
     exact ⟨by first|rfl|(simp;done)|(simp [*];done),by repeat (first|exact Drawn0.refl _|apply Drawn0.step)⟩
 ·rw [if_neg c3] at H
  have c3b0:((l0.length:Int) == (l1.length:Int)) = false:=beq_eq_false_iff_ne.mpr c3
  have c3b1:((l0.length:Int) != (l1.length:Int)) = true:=bne_iff_ne.mpr c3
  have c3b2:(l0.length == l1.length) = false:=by first|simpa using c3|(simp at c3 ⊢;omega)
  obtain rfl:=Option.some.inj H
  go_enter Try.func9,Try.ntmps9
  go_wp2
  repeat (go_quiet (fail);try go_wp2)
  go_ret
  exact ⟨by first|rfl|(simp;done)|(simp [*];done),by repeat (first|exact Drawn0.refl _|apply Drawn0.step)⟩
def q3.f (k:Nat)  : Option (Bool):=(q8.f k (⟨#[32,97,32,32,98,35,32,99]⟩:ByteArray)).bind fun bt101=>(if bt101.2 = 0 then (if (bt101.1.length:Int) = 2 then (if 0 < (bt101.1.length:Int) then (if ((((rd_T28 bt101.1 0).f0).toList) == ([97]:List UInt8) && (((rd_T28 bt101.1 0).f1) == 2)) = true then (if 1 < (bt101.1.length:Int) then (some ((((rd_T28 bt101.1 1).f0).toList) == ([98]:List UInt8) && (((rd_T28 bt101.1 1).f1) == 5))) else (none)) else (some false)) else (none)) else (some false)) else (some false))
theorem q3.mono:∀ k,LeO (q3.f k ) (q3.f (k + 1) ):=by
 intro  k
 unfold q3.f
 repeat' first
   | (with_reducible exact q8.mono _ _)
   | (with_reducible exact LeO.refl _)
   | (with_reducible exact LeO.none _)
   | (with_reducible refine LeO.ite ?_ ?_)
   | (with_reducible refine LeO.bind ?_ (fun _=>?_))
   | exact q8.mono _ _
   | exact LeO.none _
   | refine LeO.ite ?_ ?_
   | refine LeO.bind ?_ (fun _=>?_)
set_option maxHeartbeats 8000000 in
set_option maxRecDepth 100000 in
theorem q3.calls (k:Nat)  (r:Bool) (w:World) (h:q3.f k  = some r) :
  Calls Try.prog 10 #[] w fun e w'=>e = .returned (.bool r) ∧ Below w.heap.size w w':=by
 have hu28:=Try.underlying28
 have HB:=zk (Below.refl w.heap.size w)
 have H:((q8.f k (⟨#[32,97,32,32,98,35,32,99]⟩:ByteArray)).bind fun bt101=>(if bt101.2 = 0 then (if (bt101.1.length:Int) = 2 then (if 0 < (bt101.1.length:Int) then (if ((((rd_T28 bt101.1 0).f0).toList) == ([97]:List UInt8) && (((rd_T28 bt101.1 0).f1) == 2)) = true then (if 1 < (bt101.1.length:Int) then (some ((((rd_T28 bt101.1 1).f0).toList) == ([98]:List UInt8) && (((rd_T28 bt101.1 1).f1) == 5))) else (none)) else (some false)) else (none)) else (some false)) else (some false))) = some r:=h
 clear h
 replace H:=Option.bind_eq_some_iff.mp H
 obtain ⟨⟨t101,t102⟩,A10,H⟩:=H
 replace H:(if t102 = 0 then (if (t101.length:Int) = 2 then (if 0 < (t101.length:Int) then (if ((((rd_T28 t101 0).f0).toList) == ([97]:List UInt8) && (((rd_T28 t101 0).f1) == 2)) = true then (if 1 < (t101.length:Int) then (some ((((rd_T28 t101 1).f0).toList) == ([98]:List UInt8) && (((rd_T28 t101 1).f1) == 5))) else (none)) else (some false)) else (none)) else (some false)) else (some false)) = some r:=H
 have A1:=Aside0.mk A10
 clear A10
 by_cases c2:t102 = 0
 ·rw [if_pos c2] at H
  have c2b0:(t102 == 0) = true:=beq_iff_eq.mpr c2
  have c2b1:(t102 != 0) = false:=bne_eq_false_iff_eq.mpr c2
  clear c2
  by_cases c3:(t101.length:Int) = 2
  ·rw [if_pos c3] at H
   have c3b0:((t101.length:Int) == 2) = true:=beq_iff_eq.mpr c3
   have c3b1:((t101.length:Int) != 2) = false:=bne_eq_false_iff_eq.mpr c3
   clear c3
   by_cases c4:0 < (t101.length:Int)
   ·rw [if_pos c4] at H
    have c4b0:decide (0 < (t101.length:Int)) = true:=decide_eq_true c4
    have c4b1:decide (0 < t101.length) = true:=decide_eq_true (by omega)
    clear c4
    by_cases c5:((((rd_T28 t101 0).f0).toList) == ([97]:List UInt8) && (((rd_T28 t101 0).f1) == 2)) = true
    ·rw [if_pos c5] at H
     have c5b0:((((rd_T28 t101 0).f0).toList) == ([97]:List UInt8) && (((rd_T28 t101 0).f1) == 2)) = true:=c5
     (try (have c5b1:decide ((((rd_T28 t101 0).f0).toList) = ([97]:List UInt8) && (((rd_T28 t101 0).f1) == 2)) = true:=by simpa using c5))
     (try (have c5b2:((((rd_T28 t101 0).f0).toList) == ([97]:List UInt8) && (((rd_T28 t101 0).f1) == 2)) = true:=by simpa using c5))
     clear c5
     by_cases c6:1 < (t101.length:Int)
     ·rw [if_pos c6] at H
      have c6b0:decide (1 < (t101.length:Int)) = true:=decide_eq_true c6
      have c6b1:decide (1 < t101.length) = true:=decide_eq_true (by omega)
      clear c6
      obtain rfl:=Option.some.inj H
      go_enter Try.func10,Try.ntmps10
      go_wp2_with (first|((with_reducible refine gate_callee (f:=8) rfl ?_);refine goesL_ (some 4) rfl rfl Try.func8 (by kernel_rfl) rfl #[.string (⟨#[32,97,32,32,98,35,32,99]⟩:ByteArray)] rfl oF ?_;(with_reducible refine (q8.calls k (⟨#[32,97,32,32,98,35,32,99]⟩:ByteArray) t101 t102 _ A1.out).mono ?_);rintro e w7 ⟨v103,rfl,ho0,hb⟩;refine ⟨_,rfl,?_⟩;have n0_:=zk (Kd.R_lower ho0 (below_size (bq HB.out)));have n1_:=zk (below_step (bq HB.out) hb);clear HB;have HO104:=n0_;have HB:=n1_;clear n0_ n1_;(try clear hb);(try clear hb2);(try clear hk);(try clear hi);(try clear ho0);obtain ⟨Ao8,co8,eo8⟩:=Kd.R_slice HO104.out;subst eo8;have p105:0 ≤ (0:Int):=(by omega);have q105:0 < (t101.length:Int):=oA;obtain ⟨ad105,e105,hx105_0,hx105_1⟩:=at_T28 (Kd.R_reads' HO104.out).2.2 0 p105 q105;cases e105;have qi105:(0 < t101.length) = True:=eq_true (by omega);(try rw [show ((0:Int)).toNat = 0 from rfl] at hx105_0);(try rw [show 0 * 2 = 0 from rfl] at hx105_0);(try rw [Addr.add_zero'] at hx105_0);(try rw [show ((0:Int)).toNat = 0 from rfl] at hx105_1);(try rw [show 0 * 2 = 0 from rfl] at hx105_1);(try rw [Addr.add_zero'] at hx105_1);replace p105:=eq_true p105;replace q105:=eq_true q105;have p106:0 ≤ (1:Int):=(by omega);have q106:1 < (t101.length:Int):=oA;obtain ⟨ad106,e106,hx106_0,hx106_1⟩:=at_T28 (Kd.R_reads' HO104.out).2.2 1 p106 q106;obtain rfl:ad105 = ad106:=(by injection e106);(try simp only [show (1:Int).toNat = 1 from rfl,Nat.reduceMul,Nat.reduceEqDiff,Go.Addr.add,↓reduceIte] at hx106_0);(try simp only [show (1:Int).toNat = 1 from rfl,Nat.reduceMul,Nat.reduceEqDiff,Go.Addr.add,↓reduceIte] at hx106_1);have qi106:(1 < t101.length) = True:=eq_true (by omega);(try rw [show ((1:Int)).toNat = 1 from rfl] at hx106_0);(try rw [show 1 * 2 = 2 from rfl] at hx106_0);(try rw [show ((1:Int)).toNat = 1 from rfl] at hx106_1);(try rw [show 1 * 2 = 2 from rfl] at hx106_1);replace p106:=eq_true p106;replace q106:=eq_true q106))
      go_ret
      exact ⟨by first|rfl|(simp [errW_none,errW_some] <;> rfl)|(simp [*,errW_none,errW_some] <;> rfl),bq HB.out⟩
     ·rw [if_neg c6] at H
      exact absurd H (by simp)
    ·rw [if_neg c5] at H
     have c5b0:((((rd_T28 t101 0).f0).toList) == ([97]:List UInt8) && (((rd_T28 t101 0).f1) == 2)) = false:=by simpa using c5
     (try (have c5b1:decide ((((rd_T28 t101 0).f0).toList) = ([97]:List UInt8) && (((rd_T28 t101 0).f1) == 2)) = false:=by simpa using c5))
     (try (have c5b2:((((rd_T28 t101 0).f0).toList) == ([97]:List UInt8) && (((rd_T28 t101 0).f1) == 2)) = false:=by simpa using c5))
     (try (have c5b3:¬ ((((rd_T28 t101 0).f0).toList) = ([97]:List UInt8) && (((rd_T28 t101 0).f1) == 2)):=by simpa using c5))
     clear c5
     obtain rfl:=Option.some.inj H
     go_enter Try.func10,Try.ntmps10
     go_wp2_with (first|((with_reducible refine gate_callee (f:=8) rfl ?_);refine goesL_ (some 4) rfl rfl Try.func8 (by kernel_rfl) rfl #[.string (⟨#[32,97,32,32,98,35,32,99]⟩:ByteArray)] rfl oF ?_;(with_reducible refine (q8.calls k (⟨#[32,97,32,32,98,35,32,99]⟩:ByteArray) t101 t102 _ A1.out).mono ?_);rintro e w9 ⟨v103,rfl,ho0,hb⟩;refine ⟨_,rfl,?_⟩;have n0_:=zk (Kd.R_lower ho0 (below_size (bq HB.out)));have n1_:=zk (below_step (bq HB.out) hb);clear HB;have HO104:=n0_;have HB:=n1_;clear n0_ n1_;(try clear hb);(try clear hb2);(try clear hk);(try clear hi);(try clear ho0);obtain ⟨Ao10,co10,eo10⟩:=Kd.R_slice HO104.out;subst eo10;have p105:0 ≤ (0:Int):=(by omega);have q105:0 < (t101.length:Int):=oA;obtain ⟨ad105,e105,hx105_0,hx105_1⟩:=at_T28 (Kd.R_reads' HO104.out).2.2 0 p105 q105;cases e105;have qi105:(0 < t101.length) = True:=eq_true (by omega);(try rw [show ((0:Int)).toNat = 0 from rfl] at hx105_0);(try rw [show 0 * 2 = 0 from rfl] at hx105_0);(try rw [Addr.add_zero'] at hx105_0);(try rw [show ((0:Int)).toNat = 0 from rfl] at hx105_1);(try rw [show 0 * 2 = 0 from rfl] at hx105_1);(try rw [Addr.add_zero'] at hx105_1);replace p105:=eq_true p105;replace q105:=eq_true q105))
     go_ret
     exact ⟨by first|rfl|(simp [errW_none,errW_some] <;> rfl)|(simp [*,errW_none,errW_some] <;> rfl),bq HB.out⟩
   ·rw [if_neg c4] at H
    exact absurd H (by simp)
  ·rw [if_neg c3] at H
   have c3b0:((t101.length:Int) == 2) = false:=beq_eq_false_iff_ne.mpr c3
   have c3b1:((t101.length:Int) != 2) = true:=bne_iff_ne.mpr c3
   obtain rfl:=Option.some.inj H
   go_enter Try.func10,Try.ntmps10
   go_wp2_with (first|((with_reducible refine gate_callee (f:=8) rfl ?_);refine goesL_ (some 4) rfl rfl Try.func8 (by kernel_rfl) rfl #[.string (⟨#[32,97,32,32,98,35,32,99]⟩:ByteArray)] rfl oF ?_;(with_reducible refine (q8.calls k (⟨#[32,97,32,32,98,35,32,99]⟩:ByteArray) t101 t102 _ A1.out).mono ?_);rintro e w11 ⟨v103,rfl,ho0,hb⟩;refine ⟨_,rfl,?_⟩;have n0_:=zk (Kd.R_lower ho0 (below_size (bq HB.out)));have n1_:=zk (below_step (bq HB.out) hb);clear HB;have HO104:=n0_;have HB:=n1_;clear n0_ n1_;(try clear hb);(try clear hb2);(try clear hk);(try clear hi);(try clear ho0);obtain ⟨Ao12,co12,eo12⟩:=Kd.R_slice HO104.out;subst eo12))
   go_ret
   exact ⟨by first|rfl|(simp [errW_none,errW_some] <;> rfl)|(simp [*,errW_none,errW_some] <;> rfl),bq HB.out⟩
 ·rw [if_neg c2] at H
  have c2b0:(t102 == 0) = false:=beq_eq_false_iff_ne.mpr c2
  have c2b1:(t102 != 0) = true:=bne_iff_ne.mpr c2
  obtain rfl:=Option.some.inj H
  go_enter Try.func10,Try.ntmps10
  go_wp2_with (first|((with_reducible refine gate_callee (f:=8) rfl ?_);refine goesL_ (some 4) rfl rfl Try.func8 (by kernel_rfl) rfl #[.string (⟨#[32,97,32,32,98,35,32,99]⟩:ByteArray)] rfl oF ?_;(with_reducible refine (q8.calls k (⟨#[32,97,32,32,98,35,32,99]⟩:ByteArray) t101 t102 _ A1.out).mono ?_);rintro e w13 ⟨v103,rfl,ho0,hb⟩;refine ⟨_,rfl,?_⟩;have n0_:=zk (Kd.R_lower ho0 (below_size (bq HB.out)));have n1_:=zk (below_step (bq HB.out) hb);clear HB;have HO104:=n0_;have HB:=n1_;clear n0_ n1_;(try clear hb);(try clear hb2);(try clear hk);(try clear hi);(try clear ho0)))
  go_ret
  exact ⟨by first|rfl|(simp [errW_none,errW_some] <;> rfl)|(simp [*,errW_none,errW_some] <;> rfl),bq HB.out⟩
end Go.Proofs.Ytniohifoimhbkaa.Q
