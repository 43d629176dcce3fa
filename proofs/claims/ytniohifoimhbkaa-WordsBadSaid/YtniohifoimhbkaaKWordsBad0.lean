-- merged and slimmed by slim.py (a program of this repo)
import Derived.Test.YtniohifoimhbkaaWMore
import Derived.Test.YtniohifoimhbkaaShelf
import Derived.Test.YtniohifoimhbkaaWEqStruct
import Derived.Test.YtniohifoimhbkaaWRepsOne
import Derived.Test.YtniohifoimhbkaaWGuard
import Derived.Lib.BitFns
import Derived.Lib.IndexLaws
namespace Go.Proofs.YtniohifoimhbkaaW.PrintWords
open Go.RowKit
set_option linter.unusedVariables false
universe u
class St (w w' : World):Prop where
  b:∀ {w0:World},Below w0.heap.size w0 w → Below w0.heap.size w0 w'
  h:∀ {g:Nat} {o:Obj},w.heap[g]? = some o → w'.heap[g]? = some o
  r:∀ {α:Type} {d:Kd α} {e base:Nat} {ok:Nat → Prop} {v:Value} {xs:List α},d.R e w base ok v xs → d.R e w' base ok v xs
  c:∀ {α:Type} {d:Kd α} {A:Option Addr} {n:Nat} {xs:List α},d.C w A n xs → d.C w' A n xs
instance St.refl (w:World):St w w:=⟨id,id,id,id⟩
instance St.alloc (w w' : World) (o:Obj) [i:St w w']:St w (w'.alloc o):=⟨fun h=>below_alloc (i.b h) o,fun h=>blk_alloc (i.h h) o,fun h=>Kd.R_alloc (i.r h) o,fun h=>Kd.C_alloc (i.c h) o⟩
instance St.drewN (w w' : World) (n:Nat) [i:St w w']:St w (w'.drewN n):=⟨fun h=>pw_below_drewN (i.b h) n,fun h=>blk_drewN (i.h h) n,fun h=>Kd.R_drewN (i.r h) n,fun h=>Kd.C_drewN (i.c h) n⟩
instance St.drew (w w' : World) [i:St w w']:St w w'.drew:=⟨fun h=>below_drew1 (i.b h),fun h=>blk_drew (i.h h),fun h=>Kd.R_drew (i.r h),fun h=>Kd.C_drew (i.c h)⟩
theorem bq {w0 w w' : World} (h:Below w0.heap.size w0 w) [i:St w w']:Below w0.heap.size w0 w':=i.b h
theorem hq {w w' : World} {g:Nat} {o:Obj} (h:w.heap[g]? = some o) [i:St w w']:w'.heap[g]? = some o:=i.h h
theorem rq {w w' : World} {α:Type} {d:Kd α} {e base:Nat} {ok:Nat → Prop} {v:Value} {xs:List α} (h:d.R e w base ok v xs) [i:St w w']:d.R e w' base ok v xs:=i.r h
theorem cq {w w' : World} {α:Type} {d:Kd α} {A:Option Addr} {n:Nat} {xs:List α} (h:d.C w A n xs) [i:St w w']:d.C w' A n xs:=i.c h
class Sg (g g' : Nat) (w w' : World):Prop where
  b:∀ {w0:World},w0.heap.size ≤ g → w0.heap.size ≤ g' → Below w0.heap.size w0 w → Below w0.heap.size w0 w'
instance Sg.refl (g g' : Nat) (w:World):Sg g g' w w:=⟨fun _ _ h=>h⟩
instance Sg.alloc (g g' : Nat) (w w' : World) (o:Obj) [i:Sg g g' w w']:Sg g g' w (w'.alloc o):=⟨fun a b h=>below_alloc (i.b a b h) o⟩
instance Sg.drewN (g g' : Nat) (w w' : World) (n:Nat) [i:Sg g g' w w']:Sg g g' w (w'.drewN n):=⟨fun a b h=>pw_below_drewN (i.b a b h) n⟩
instance Sg.drew (g g' : Nat) (w w' : World) [i:Sg g g' w w']:Sg g g' w w'.drew:=⟨fun a b h=>below_drew1 (i.b a b h)⟩
instance Sg.set1 (g g' j:Nat) (v:Value) (w w' : World) [i:Sg g g' w w']:Sg g g' w (w'.setCell ⟨g,j,none⟩ v):=⟨fun a b h=>below_set (i.b a b h) a⟩
instance Sg.set2 (g g' j:Nat) (v:Value) (w w' : World) [i:Sg g g' w w']:Sg g g' w (w'.setCell ⟨g',j,none⟩ v):=⟨fun a b h=>below_set (i.b a b h) b⟩
theorem bg {w0 w w' : World} {g g' : Nat} (h:Below w0.heap.size w0 w) (a:Aside0 (w0.heap.size ≤ g)) (b:Aside0 (w0.heap.size ≤ g')) [i:Sg g g' w w']:Below w0.heap.size w0 w':=i.b a.out b.out h
theorem zk {p:Prop} (h:p):Aside0 p:=⟨h⟩
theorem oA {p:Prop} [Decidable p] (h:decide p = true:=by first|(with_reducible assumption)|assumption):p:=of_decide_eq_true h
theorem oE {α:Sort u} {a b:α} (h:a = b:=by first|rfl|(simp;done)|(simp [*];done)):a = b:=h
theorem oF {α:Sort u} {a b:α} (h:a = b:=by first|done|rfl|((try simp only [List.map_toArray,List.map_cons,List.map_nil]);first|done|rfl|(simp only [List.length_drop,List.length_take];rfl))):a = b:=h
theorem oD {p:Prop} [Decidable p] (h:decide p = true):p:=of_decide_eq_true h
end Go.Proofs.YtniohifoimhbkaaW.PrintWords
namespace Go.Proofs.Ytniohifoimhbkaa.Q
open Go.RowKit Go.Proofs.YtniohifoimhbkaaW.PrintWords Go.Proofs.YtniohifoimhbkaaW.PrintLast Go.Proofs.YtniohifoimhbkaaW.PrintMore
attribute [local go_sem] max2_int min2_int max_two min_two max_three min_three max_four min_four
set_option linter.unusedVariables false
set_option linter.unusedSimpArgs false
def errW:Option Int → Value
 | none=>.nilIface
 | some c=>.iface 0 (.int .i64 c)
theorem errW_none:errW none = .nilIface:=rfl
theorem errW_some (c:Int):errW (some c) = .iface 0 (.int .i64 c):=rfl
theorem info28:(Try.prog.info? 28).map (fun i=>(i.zero,i.size,i.bytes)) = some (some (.agg #[(.string ⟨#[]⟩),(.int .i64 0)]),2,24):=by kernel_rfl
structure S28 where
 f0:ByteArray
 f1:Int
def z28:S28:=⟨(⟨#[]⟩:ByteArray),(0:Int)⟩
def k28:Kd S28:=Kd.iso (Kd.pair Kd.string (Kd.int .i64)) (fun x:S28=>(x.f0,x.f1))
theorem k28_open {w:World} {x:S28} {cs:List Value} (h:k28.K w x cs):cs = [.string x.f0,.int .i64 x.f1]:=by
 obtain ⟨_,_,rfl,rfl,rfl⟩:=h
 exact rfl
theorem k28_mkM (w:World) (base:Nat) (ok:Nat → Prop) (x:S28)  : k28.M w base ok x [.string x.f0,.int .i64 x.f1]:=⟨[.string x.f0],[.int .i64 x.f1],rfl,rfl,rfl⟩
def rd_T28 (xs:List S28) (i:Int):S28:=xs.getD i.toNat z28
theorem at_T28 {w:World} {A:Option Addr} {n:Nat} {xs:List S28} (h:Kd.C k28 w A n xs) (i:Int) (h0:0 ≤ i) (h1:i < n):∃ ad ,A = some ad ∧ w.cell? (ad.add (i.toNat * 2)) = some (.string (rd_T28 xs i).f0) ∧ w.cell? ⟨(ad.add (i.toNat * 2)).block,(ad.add (i.toNat * 2)).off + 1,none⟩ = some (.int .i64 (rd_T28 xs i).f1):=by
 obtain ⟨ad,c,e,_,hK,hc0⟩:=Kd.C_get h z28 i h0 h1
 have hc:∀ j u,c[j]? = some u → w.cell? (ad.add (i.toNat * 2 + j)) = some u:=hc0
 obtain rfl:=k28_open hK
 exact ⟨ad,e,hc 0 _ rfl,by rw [← add_field _ _ 1 (by omega)];exact hc 1 _ rfl⟩
def q3.f (a0:ByteArray) (a1:Int):Option (ByteArray):=if 0 ≤ (mn (a0.size:Int) a1) then (if (mn (a0.size:Int) a1) ≤ (a0.size:Int) then (some (a0.extract 0 ((mn (a0.size:Int) a1):Int).toNat)) else (none)) else (none)
set_option maxHeartbeats 8000000 in
set_option maxRecDepth 100000 in
theorem q3.calls (a0:ByteArray) (a1:Int) (r:ByteArray) (w:World) (h:q3.f a0 a1 = some r) :
  Calls Try.prog 11 #[.string a0,.int .i64 a1] w fun e w'=>e = .returned (.string r) ∧ Below w.heap.size w w':=by
 have HB:=zk (Below.refl w.heap.size w)
 have H:(if 0 ≤ (mn (a0.size:Int) a1) then (if (mn (a0.size:Int) a1) ≤ (a0.size:Int) then (some (a0.extract 0 ((mn (a0.size:Int) a1):Int).toNat)) else (none)) else (none)) = some r:=h
 clear h
 obtain ⟨ji3,hji3⟩:∃ j_:Int,(mn (a0.size:Int) a1) = j_:=⟨_,rfl⟩
 replace H:(if 0 ≤ (ji3) then (if (ji3) ≤ (a0.size:Int) then (some (a0.extract 0 ((ji3):Int).toNat)) else (none)) else (none)) = some r:=by first|(rw [hji3] at H;exact H)|(simp only [hji3] at H ⊢;exact H)
 have hji3_:(if a1 < (a0.size:Int) then a1 else (a0.size:Int)) = ji3:=hji3
 by_cases c4:0 ≤ (ji3)
 ·rw [if_pos c4] at H
  have c4b0:=eq_true c4
  have c4b1:decide (0 ≤ (ji3)) = true:=decide_eq_true c4
  clear c4
  by_cases c5:(ji3) ≤ (a0.size:Int)
  ·rw [if_pos c5] at H
   have c5b0:=eq_true c5
   have c5b1:decide ((ji3) ≤ (a0.size:Int)) = true:=decide_eq_true c5
   clear c5
   obtain rfl:=Option.some.inj H
   go_enter Try.func11,Try.ntmps11
   go_wp2
   go_ret
   exact ⟨by first|rfl|(simp [errW_none,errW_some] <;> rfl)|(simp only [← hji3];first|rfl|(simp [errW_none,errW_some] <;> rfl))|(simp [*,errW_none,errW_some] <;> rfl),bq HB.out⟩
  ·rw [if_neg c5] at H
   exact absurd H (by simp)
 ·rw [if_neg c4] at H
  exact absurd H (by simp)
def cleanL (l:List UInt8):List UInt8:=l.filter (fun c=>decide (32 < c.toNat) && (decide (c.toNat < 127) && (c.toNat != 35)))
def cleanB (l:List UInt8):ByteArray:=⟨((119:UInt8) :: cleanL l).toArray⟩
def q2.f (a0:ByteArray):Option (ByteArray):=some (cleanB (a0.data.toList.take 10))
set_option maxHeartbeats 8000000 in
set_option maxRecDepth 100000 in
theorem q2.calls (a0:ByteArray) (r:ByteArray) (w:World) (h:q2.f a0 = some r) :
  Calls Try.prog 7 #[.string a0] w fun e w'=>e = .returned (.string r) ∧ Below w.heap.size w w':=by
 obtain ⟨y,hy⟩:∃ y,y = a0.extract 0 ((mn (a0.size:Int) 10):Int).toNat:=⟨_,rfl⟩
 have hT:q3.f a0 10 = some y:=by
  unfold q3.f mn
  rw [hy]
  unfold mn
  split
  ·rw [if_pos (by omega),if_pos (by omega)]
  ·rw [if_pos (by omega),if_pos (by omega)]
 have hys:y.size ≤ 10:=by
  rw [hy,ByteArray.size_extract]
  unfold mn
  split <;> omega
 have HT:=Aside0.mk hT
 have HYS:=Aside0.mk hys
 have HY:=Aside0.mk hy
 have HR:=Aside0.mk h
 clear h hy hT hys
 have kc:=fun (w:World)=>run_bytes_of_string (P:=Try.prog) w 9 34 5 y Try.underlying9 Try.underlying34 Try.underlying5
 go_enter Try.func7,Try.ntmps7
 go_wp2_with (go_at_call 11;(with_reducible refine (q3.calls _ _ y w HT.out).mono ?_);rintro e w1 ⟨rfl,hb1⟩;have HB1:=Aside0.mk hb1;clear hb1)
 have hB2:Below w.heap.size w ((w1.alloc (.cells (bytesRow y (grownCap w1 y.size 0 5)) 5 ((bytesRow y (grownCap w1 y.size 0 5)).size,(bytesRow y (grownCap w1 y.size 0 5)).size + 1))).drew):=below_drew (below_alloc HB1.out _)
 have hsz:w1.heap.size < ((w1.alloc (.cells (bytesRow y (grownCap w1 y.size 0 5)) 5 ((bytesRow y (grownCap w1 y.size 0 5)).size,(bytesRow y (grownCap w1 y.size 0 5)).size + 1))).drew).heap.size:=by
  show w1.heap.size < (w1.heap.push _).size
  rw [Array.size_push];omega
 have hcell:∀ j,j < y.size → ((w1.alloc (.cells (bytesRow y (grownCap w1 y.size 0 5)) 5 ((bytesRow y (grownCap w1 y.size 0 5)).size,(bytesRow y (grownCap w1 y.size 0 5)).size + 1))).drew).cell? ⟨w1.heap.size,j,none⟩ = some (.int .u8 ((y.data.toList.getD j 0).toNat:Int)):=by
  intro j hj
  have h1:=World.cell?_alloc_mark w1 (bytesRow y (grownCap w1 y.size 0 5)) 5 ((bytesRow y (grownCap w1 y.size 0 5)).size,(bytesRow y (grownCap w1 y.size 0 5)).size + 1) j
  refine Eq.trans h1 ?_
  unfold bytesRow
  have hj' : j < y.data.size:=hj
  rw [Array.getElem?_append_left (by rw [Array.size_map];exact hj'),Array.getElem?_map,Array.getElem?_eq_getElem hj',List.getD_eq_getElem?_getD,Array.getElem?_toList,Array.getElem?_eq_getElem hj']
  rfl
 obtain ⟨W2,hW⟩:∃ W2,W2 = (w1.alloc (.cells (bytesRow y (grownCap w1 y.size 0 5)) 5 ((bytesRow y (grownCap w1 y.size 0 5)).size,(bytesRow y (grownCap w1 y.size 0 5)).size + 1))).drew:=⟨_,rfl⟩
 rw [← hW] at hB2 hsz hcell ⊢
 have HB2:=Aside0.mk hB2
 have HSZ:=Aside0.mk hsz
 have HC:=Aside0.mk hcell
 clear hB2 hsz hcell hW kc
 generalize grownCap w1 y.size 0 5 = cp
 go_loopg [3,5,10] y.size (fun kq v3 v5 v10 w'=>∃ (xi:Int),v3 = .string (cleanB (y.data.toList.take xi.toNat)) ∧ v10 = .int .i64 xi ∧ Aside0 (0 ≤ xi ∧ xi + kq = y.size) ∧ Aside0 (Below W2.heap.size W2 w'))
 case atStart=>exact ⟨0,rfl,rfl,⟨by omega,by omega⟩,⟨Below.refl _ _⟩⟩
 case round =>
  obtain ⟨xi,rfl,rfl,HX,HW3⟩:=hrel
  cases gk with
  | zero =>
   have c1:decide (xi < (y.size:Int)) = false:=decide_eq_false (by have:=HX.out;omega)
   have hx:xi.toNat = y.size:=by have:=HX.out;omega
   have hd:cleanB (y.data.toList.take xi.toNat) = r:=by
    have e:=Option.some.inj HR.out
    rw [← e,hx]
    congr 1
    rw [List.take_of_length_le (by rw [data_length];exact Nat.le_refl _),HY.out,ByteArray.data_extract,Array.toList_extract]
    have hl:=data_length a0
    rw [List.extract_eq_take_drop,List.drop_zero,Nat.sub_zero]
    unfold mn
    split
    ·rfl
    ·rw [List.take_of_length_le (by omega),List.take_of_length_le (by omega)]
   rw [hd]
   clear hd
   go_wp2
   go_ret
   exact ⟨rfl,HB2.out.trans (HW3.out.mono (by have:=HB2.out.size;omega))⟩
  | succ k1 =>
   have c0:=eq_true HX.out.1
   have hlt:xi < (y.size:Int):=by have:=HX.out;omega
   have c1:=eq_true hlt
   have c2:decide (xi < (y.size:Int)) = true:=decide_eq_true hlt
   obtain ⟨b,hb⟩:∃ b,b = y.data.toList.getD xi.toNat 0:=⟨_,rfl⟩
   have hx:wr.cell? ⟨w1.heap.size,xi.toNat,none⟩ = some (.int .u8 (b.toNat:Int)):=by
    have h1:=HC.out xi.toNat (by have:=HX.out;omega)
    rw [← hb] at h1
    rw [HW3.out.cell (p:=⟨w1.heap.size,xi.toNat,none⟩) HSZ.out]
    exact h1
   have hw:wrap64 (xi + 1) = xi + 1:=by have:=HX.out;have:=HYS.out;unfold wrap64;omega
   have hstep:cleanL (y.data.toList.take (xi + 1).toNat) = cleanL (y.data.toList.take xi.toNat) ++ cleanL [b]:=by
    have:=HX.out
    unfold cleanL
    rw [← List.filter_append,show (xi + 1).toNat = xi.toNat + 1 by omega,List.take_add_one,hb]
    congr 2
    rw [List.getElem?_eq_getElem (by rw [data_length];omega),List.getD_eq_getElem?_getD,List.getElem?_eq_getElem (by rw [data_length];omega)];rfl
   have HWR:=Aside0.mk hw
   have HST:=Aside0.mk hstep
   clear hw hstep hb hlt
   have skip_:cleanL [b] = [] → cleanB (y.data.toList.take (xi + 1).toNat) = cleanB (y.data.toList.take xi.toNat):=by
    intro e;unfold cleanB;rw [HST.out,e,List.append_nil]
   have SK:=Aside0.mk skip_
   clear skip_
   by_cases p1:(b.toNat:Int) > 32
   ·have d1:decide ((b.toNat:Int) > 32) = true:=decide_eq_true p1
    by_cases p2:(b.toNat:Int) < 127
    ·have d2:decide ((b.toNat:Int) < 127) = true:=decide_eq_true p2
     by_cases p3:(b.toNat:Int) = 35
     ·have d3:((b.toNat:Int) != 35) = false:=by rw [p3];rfl
      have hs_:cleanL [b] = []:=by
       have:b.toNat = 35:=by omega
       simp [cleanL,this]
      have hc:=SK.out hs_
      clear p1 p2 p3 hs_
      have HCC:=Aside0.mk hc
      clear hc
      go_wp2
      go_roundg k1
      case measure=>have:=HX.out;omega
      case rel=>exact ⟨wrap64 (xi + 1),(by rw [HWR.out,HCC.out]),rfl,⟨by rw [HWR.out];have:=HX.out;omega⟩,HW3⟩
     ·have d3:((b.toNat:Int) != 35) = true:=bne_iff_ne.mpr p3
      have hk_:cleanL [b] = [b]:=by
       have:32 < b.toNat:=by omega
       have:b.toNat < 127:=by omega
       have:b.toNat ≠ 35:=by omega
       simp [cleanL, *]
      have hcat:cleanB (y.data.toList.take xi.toNat) ++ (⟨#[b]⟩:ByteArray) = cleanB (y.data.toList.take (xi + 1).toNat):=by
       apply ByteArray.ext
       rw [ByteArray.data_append]
       unfold cleanB
       rw [HST.out,hk_]
       simp
      have hsize:(cleanB (y.data.toList.take xi.toNat)).size + (⟨#[b]⟩:ByteArray).size ≤ 9223372036854775807:=by
       have h1:(cleanB (y.data.toList.take xi.toNat)).size = 1 + (cleanL (y.data.toList.take xi.toNat)).length:=by
        show ((119:UInt8) :: cleanL (y.data.toList.take xi.toNat)).toArray.size = _
        simp;omega
       have h2:(cleanL (y.data.toList.take xi.toNat)).length ≤ 10:=by
        unfold cleanL
        refine Nat.le_trans (List.length_filter_le _ _) ?_
        rw [List.length_take,data_length]
        have:=HYS.out;omega
       have h3:(⟨#[b]⟩:ByteArray).size = 1:=rfl
       omega
      obtain ⟨ob,hob⟩:∃ ob:ByteArray,ob = ⟨#[b]⟩:=⟨_,rfl⟩
      rw [← hob] at hcat hsize
      have s1:=decide_eq_true hsize
      have s2:(9223372036854775807 < (cleanB (y.data.toList.take xi.toNat)).size + ob.size) = False:=eq_false (Nat.not_lt.2 hsize)
      have kc2:(convert 34 9 (.slice (some ⟨wr.heap.size,0,none⟩) 1 1)).run Try.prog (wr.alloc (.cells #[.int .u8 (b.toNat:Int)] 5)) = .ok (.string ob) (wr.alloc (.cells #[.int .u8 (b.toNat:Int)] 5)):=by
       rw [hob]
       refine run_convert_bytes_back (P:=Try.prog) _ 34 9 5 ⟨wr.heap.size,0,none⟩ 1 [b] Try.underlying34 Try.underlying5 Try.underlying9 (fun j hj=>?_)
       obtain rfl:j = 0:=by simpa using hj
       exact World.cell?_alloc_at (w:=wr) #[.int .u8 (b.toNat:Int)] 5 wr.heap.size 0 rfl
      have HCT:=Aside0.mk hcat
      clear p1 p2 p3 hcat hsize hk_ hob
      go_wp2
      go_roundg k1
      case measure=>have:=HX.out;omega
      case rel=>exact ⟨wrap64 (xi + 1),(by rw [HWR.out,HCT.out]),rfl,⟨by rw [HWR.out];have:=HX.out;omega⟩,⟨by first|exact below_alloc HW3.out _|exact below_drew (below_alloc HW3.out _)⟩⟩
    ·have d2:decide ((b.toNat:Int) < 127) = false:=decide_eq_false p2
     have hs_:cleanL [b] = []:=by
      have:¬ b.toNat < 127:=by omega
      simp [cleanL,this]
     have hc:=SK.out hs_
     clear p1 p2 hs_
     have HCC:=Aside0.mk hc
     clear hc
     go_wp2
     go_roundg k1
     case measure=>have:=HX.out;omega
     case rel=>exact ⟨wrap64 (xi + 1),(by rw [HWR.out,HCC.out]),rfl,⟨by rw [HWR.out];have:=HX.out;omega⟩,HW3⟩
   ·have d1:decide ((b.toNat:Int) > 32) = false:=decide_eq_false p1
    have hs_:cleanL [b] = []:=by
     have:¬ 32 < b.toNat:=by omega
     simp [cleanL,this]
    have hc:=SK.out hs_
    clear p1 hs_
    have HCC:=Aside0.mk hc
    clear hc
    go_wp2
    go_roundg k1
    case measure=>have:=HX.out;omega
    case rel=>exact ⟨wrap64 (xi + 1),(by rw [HWR.out,HCC.out]),rfl,⟨by rw [HWR.out];have:=HX.out;omega⟩,HW3⟩
def q4.f (a0 a1:ByteArray):Option (Int):=match a1.data.toList with
 | [c]=>some (Lib.indexByte a0.data.toList c)
 | _=>none
theorem q4.calls (a0 a1:ByteArray) (r:Int) (w:World) (h:q4.f a0 a1 = some r) :
  Calls Try.prog 14 #[.string a0,.string a1] w fun e w'=>e = .returned (.int .i64 r) ∧ Drawn0 w w':=by
 unfold q4.f at h
 split at h
 ·rename_i c e
  obtain rfl:=Option.some.inj h
  obtain rfl:a1 = ⟨#[c]⟩:=by
   cases a1 with
   | mk d =>
    congr 1
    apply Array.toList_inj.1
    exact e
  refine (Try.stringslite_Index_one a0 c w).mono ?_
  rintro e' w' ⟨rfl,rfl⟩
  exact ⟨rfl,Drawn0.refl _⟩
 ·exact absurd h (by simp)
def q5.f (a0:ByteArray) (a1:ByteArray):Option (ByteArray × ByteArray × Bool):=(q4.f a0 a1).bind fun t101=>(if t101 ≥ 0 then (if 0 ≤ t101 then (if t101 ≤ (a0.size:Int) then (if 0 ≤ (wrap64 (t101 + (a1.size:Int))) then (if (wrap64 (t101 + (a1.size:Int))) ≤ (a0.size:Int) then (some (a0.extract 0 (t101:Int).toNat,a0.extract ((wrap64 (t101 + (a1.size:Int))):Int).toNat a0.size,true)) else (none)) else (none)) else (none)) else (none)) else (some (a0,(⟨#[]⟩:ByteArray),false)))
set_option maxHeartbeats 8000000 in
set_option maxRecDepth 100000 in
theorem q5.calls (a0:ByteArray) (a1:ByteArray) (r1:ByteArray) (r2:ByteArray) (r3:Bool) (w:World) (h:q5.f a0 a1 = some (r1,r2,r3)) :
  Calls Try.prog 13 #[.string a0,.string a1] w fun e w'=>e = .returned (.tuple #[.string r1,.string r2,.bool r3]) ∧ Drawn0 w w':=by
 have H:((q4.f a0 a1).bind fun t101=>(if t101 ≥ 0 then (if 0 ≤ t101 then (if t101 ≤ (a0.size:Int) then (if 0 ≤ (wrap64 (t101 + (a1.size:Int))) then (if (wrap64 (t101 + (a1.size:Int))) ≤ (a0.size:Int) then (some (a0.extract 0 (t101:Int).toNat,a0.extract ((wrap64 (t101 + (a1.size:Int))):Int).toNat a0.size,true)) else (none)) else (none)) else (none)) else (none)) else (some (a0,(⟨#[]⟩:ByteArray),false)))) = some (r1,r2,r3):=h
 clear h
 replace H:=Option.bind_eq_some_iff.mp H
 obtain ⟨t101,A30,H⟩:=H
 replace H:(if t101 ≥ 0 then (if 0 ≤ t101 then (if t101 ≤ (a0.size:Int) then (if 0 ≤ (wrap64 (t101 + (a1.size:Int))) then (if (wrap64 (t101 + (a1.size:Int))) ≤ (a0.size:Int) then (some (a0.extract 0 (t101:Int).toNat,a0.extract ((wrap64 (t101 + (a1.size:Int))):Int).toNat a0.size,true)) else (none)) else (none)) else (none)) else (none)) else (some (a0,(⟨#[]⟩:ByteArray),false))) = some (r1,r2,r3):=H
 have A3:=Aside0.mk A30
 clear A30
 by_cases c4:t101 ≥ 0
 ·rw [if_pos c4] at H
  have c4b0:decide (0 ≤ t101) = true:=decide_eq_true c4
  clear c4
  by_cases c5:0 ≤ t101
  ·rw [if_pos c5] at H
   have c5b0:=eq_true c5
   have c5b1:decide (0 ≤ t101) = true:=decide_eq_true c5
   clear c5
   by_cases c6:t101 ≤ (a0.size:Int)
   ·rw [if_pos c6] at H
    have c6b0:=eq_true c6
    have c6b1:decide (t101 ≤ (a0.size:Int)) = true:=decide_eq_true c6
    clear c6
    obtain ⟨ji7,hji7⟩:∃ j_:Int,(wrap64 (t101 + (a1.size:Int))) = j_:=⟨_,rfl⟩
    replace H:(if 0 ≤ (ji7) then (if (ji7) ≤ (a0.size:Int) then (some (a0.extract 0 (t101:Int).toNat,a0.extract ((ji7):Int).toNat a0.size,true)) else (none)) else (none)) = some (r1,r2,r3):=by first|(rw [hji7] at H;exact H)|(simp only [hji7] at H ⊢;exact H)
    (try rw [hji7] at A3)
    have hji7w:(IntKind.i64.wrap (t101 + (a1.size:Int))) = ji7:=(i64_w _).trans hji7
    by_cases c8:0 ≤ (ji7)
    ·rw [if_pos c8] at H
     have c8b0:=eq_true c8
     have c8b1:decide (0 ≤ (ji7)) = true:=decide_eq_true c8
     clear c8
     by_cases c9:(ji7) ≤ (a0.size:Int)
     ·rw [if_pos c9] at H
      have c9b0:=eq_true c9
      have c9b1:decide ((ji7) ≤ (a0.size:Int)) = true:=decide_eq_true c9
      clear c9
      simp only [Option.some.injEq,Prod.mk.injEq] at H
      obtain ⟨rfl,rfl,rfl⟩:=H
      go_enter Try.func13,Try.ntmps13
      go_wp2_with (first|(go_at_call 14;(with_reducible refine (q4.calls a0 a1 t101 _ A3.out).mono ?_);rintro e w' ⟨rfl,⟨nd,rfl⟩⟩;(try first|exact ⟨rfl,_,World.drewN_drewN _ _ _⟩|exact ⟨rfl,_,Eq.trans (World.drewN_drewN _ _ _) (congrArg (World.drewN _) (Nat.add_assoc _ _ _))⟩)))
      repeat (go_quiet (first|(go_at_call 14;(with_reducible refine (q4.calls a0 a1 t101 _ A3.out).mono ?_);rintro e w' ⟨rfl,⟨nd,rfl⟩⟩;(try first|exact ⟨rfl,_,World.drewN_drewN _ _ _⟩|exact ⟨rfl,_,Eq.trans (World.drewN_drewN _ _ _) (congrArg (World.drewN _) (Nat.add_assoc _ _ _))⟩)));try go_wp2_with (first|(go_at_call 14;(with_reducible refine (q4.calls a0 a1 t101 _ A3.out).mono ?_);rintro e w' ⟨rfl,⟨nd,rfl⟩⟩;(try first|exact ⟨rfl,_,World.drewN_drewN _ _ _⟩|exact ⟨rfl,_,Eq.trans (World.drewN_drewN _ _ _) (congrArg (World.drewN _) (Nat.add_assoc _ _ _))⟩))))
      go_ret3
      exact ⟨by first|rfl|(simp;done)|(simp only [← hji7] <;> (first|rfl|simp))|(simp [*];done),by repeat (first|exact Drawn0.refl _|apply Drawn0.step)⟩
     ·rw [if_neg c9] at H
      exact absurd H (by simp)
    ·rw [if_neg c8] at H
     exact absurd H (by simp)
   ·rw [if_neg c6] at H
    exact absurd H (by simp)
  ·rw [if_neg c5] at H
   exact absurd H (by simp)
 ·rw [if_neg c4] at H
  have c4b0:decide (0 ≤ t101) = false:=decide_eq_false c4
  clear c4
  simp only [Option.some.injEq,Prod.mk.injEq] at H
  obtain ⟨rfl,rfl,rfl⟩:=H
  go_enter Try.func13,Try.ntmps13
  go_wp2_with (first|(go_at_call 14;(with_reducible refine (q4.calls a0 a1 t101 _ A3.out).mono ?_);rintro e w' ⟨rfl,⟨nd,rfl⟩⟩;(try first|exact ⟨rfl,_,World.drewN_drewN _ _ _⟩|exact ⟨rfl,_,Eq.trans (World.drewN_drewN _ _ _) (congrArg (World.drewN _) (Nat.add_assoc _ _ _))⟩)))
  repeat (go_quiet (first|(go_at_call 14;(with_reducible refine (q4.calls a0 a1 t101 _ A3.out).mono ?_);rintro e w' ⟨rfl,⟨nd,rfl⟩⟩;(try first|exact ⟨rfl,_,World.drewN_drewN _ _ _⟩|exact ⟨rfl,_,Eq.trans (World.drewN_drewN _ _ _) (congrArg (World.drewN _) (Nat.add_assoc _ _ _))⟩)));try go_wp2_with (first|(go_at_call 14;(with_reducible refine (q4.calls a0 a1 t101 _ A3.out).mono ?_);rintro e w' ⟨rfl,⟨nd,rfl⟩⟩;(try first|exact ⟨rfl,_,World.drewN_drewN _ _ _⟩|exact ⟨rfl,_,Eq.trans (World.drewN_drewN _ _ _) (congrArg (World.drewN _) (Nat.add_assoc _ _ _))⟩))))
  go_ret3
  exact ⟨by first|rfl|(simp;done)|(simp [*];done),by repeat (first|exact Drawn0.refl _|apply Drawn0.step)⟩
def q6.f (a0:ByteArray) (a1:ByteArray):Option (ByteArray × ByteArray × Bool):=(q5.f a0 a1).bind fun bt101=>(some (bt101.1,bt101.2.1,bt101.2.2))
set_option maxHeartbeats 8000000 in
set_option maxRecDepth 100000 in
theorem q6.calls (a0:ByteArray) (a1:ByteArray) (r1:ByteArray) (r2:ByteArray) (r3:Bool) (w:World) (h:q6.f a0 a1 = some (r1,r2,r3)) :
  Calls Try.prog 12 #[.string a0,.string a1] w fun e w'=>e = .returned (.tuple #[.string r1,.string r2,.bool r3]) ∧ Drawn0 w w':=by
 have H:((q5.f a0 a1).bind fun bt101=>(some (bt101.1,bt101.2.1,bt101.2.2))) = some (r1,r2,r3):=h
 clear h
 replace H:=Option.bind_eq_some_iff.mp H
 obtain ⟨⟨t101,t102,t103⟩,A30,H⟩:=H
 replace H:(some (t101,t102,t103)) = some (r1,r2,r3):=H
 have A3:=Aside0.mk A30
 clear A30
 simp only [Option.some.injEq,Prod.mk.injEq] at H
 obtain ⟨rfl,rfl,rfl⟩:=H
 go_enter Try.func12,Try.ntmps12
 go_wp2_with (first|((with_reducible refine gate_callee (f:=13) rfl ?_);refine goesL_ (some 9) rfl rfl Try.func13 (by kernel_rfl) rfl #[.string a0,.string a1] rfl oF ?_;(with_reducible refine (q5.calls a0 a1 t101 t102 t103 _ A3.out).mono ?_);rintro e w' ⟨rfl,⟨nd,rfl⟩⟩;refine ⟨_,rfl,?_⟩))
 go_ret3
 exact ⟨by first|rfl|(simp;done)|(simp [*];done),by repeat (first|exact Drawn0.refl _|apply Drawn0.step)⟩
mutual
def q7.l0:Nat → ByteArray → List (S28) → Int → Option ((List (S28)) × Int)
 | 0,_,_,_=>none
 | k + 1,x0,x2,x4=>if x4 < (x0.size:Int) then (if 0 ≤ x4 then (if (bt x0 x4) < 32 then (some (([]:List (S28)),wrap64 (x4 + 1))) else (if (bt x0 x4) > 126 then (some (([]:List (S28)),wrap64 (x4 + 1))) else (q7.l0 k x0 x2 (wrap64 (x4 + 1))))) else (none)) else (q7.l1 k x0 x2 0)
def q7.l1:Nat → ByteArray → List (S28) → Int → Option ((List (S28)) × Int)
 | 0,_,_,_=>none
 | k + 1,x0,x2,x5=>if x5 < (x0.size:Int) then (if 0 ≤ x5 then (if (bt x0 x5) = 32 then (q7.l1 k x0 x2 (wrap64 (x5 + 1))) else (if x5 ≤ (x0.size:Int) then ((q6.f (x0.extract (x5:Int).toNat x0.size) (⟨#[32]⟩:ByteArray)).bind fun bt104=>(if x2.length < 5864062014805 then (q7.l1 k x0 (x2 ++ [(⟨bt104.1,wrap64 (x5 + 1)⟩:S28)]) (wrap64 (x5 + (bt104.1.size:Int)))) else (none))) else (none))) else (none)) else (some (x2,0))
end
def q7.f (k:Nat) (a0:ByteArray):Option ((List (S28)) × Int):=(q6.f a0 (⟨#[35]⟩:ByteArray)).bind fun bt101=>(q7.l0 k bt101.1 ([]:List (S28)) 0)
theorem q7.mono_l:∀ k,(∀ y0 y1 y2,LeO (q7.l0 k y0 y1 y2) (q7.l0 (k + 1) y0 y1 y2)) ∧ (∀ y0 y1 y2,LeO (q7.l1 k y0 y1 y2) (q7.l1 (k + 1) y0 y1 y2))
 | 0=>⟨fun _ _ _ r h=>by simp [q7.l0] at h,fun _ _ _ r h=>by simp [q7.l1] at h⟩
 | k + 1=>by
  obtain ⟨ih0,ih1⟩:=q7.mono_l k
  refine ⟨?_,?_⟩
  ·intro y0 y1 y2
   unfold q7.l0
   repeat' first
   | (with_reducible exact ih0 _ _ _)
   | (with_reducible exact ih1 _ _ _)
   | (with_reducible exact LeO.refl _)
   | (with_reducible exact LeO.none _)
   | (with_reducible refine LeO.ite ?_ ?_)
   | (with_reducible refine LeO.bind ?_ (fun _=>?_))
   | exact ih0 _ _ _
   | exact ih1 _ _ _
   | exact LeO.none _
   | refine LeO.ite ?_ ?_
   | refine LeO.bind ?_ (fun _=>?_)
  ·intro y0 y1 y2
   unfold q7.l1
   repeat' first
   | (with_reducible exact ih0 _ _ _)
   | (with_reducible exact ih1 _ _ _)
   | (with_reducible exact LeO.refl _)
   | (with_reducible exact LeO.none _)
   | (with_reducible refine LeO.ite ?_ ?_)
   | (with_reducible refine LeO.bind ?_ (fun _=>?_))
   | exact ih0 _ _ _
   | exact ih1 _ _ _
   | exact LeO.none _
   | refine LeO.ite ?_ ?_
   | refine LeO.bind ?_ (fun _=>?_)
theorem q7.mono:∀ a0 k,LeO (q7.f k a0) (q7.f (k + 1) a0):=by
 intro a0 k
 obtain ⟨ih0,ih1⟩:=q7.mono_l k
 unfold q7.f
 repeat' first
   | (with_reducible exact ih0 _ _ _)
   | (with_reducible exact ih1 _ _ _)
   | (with_reducible exact LeO.refl _)
   | (with_reducible exact LeO.none _)
   | (with_reducible refine LeO.ite ?_ ?_)
   | (with_reducible refine LeO.bind ?_ (fun _=>?_))
   | exact ih0 _ _ _
   | exact ih1 _ _ _
   | exact LeO.none _
   | refine LeO.ite ?_ ?_
   | refine LeO.bind ?_ (fun _=>?_)
set_option maxHeartbeats 8000000 in
set_option maxRecDepth 100000 in
theorem q7.calls (k:Nat) (a0:ByteArray) (r1:List (S28)) (r2:Int) (w:World) (h:q7.f k a0 = some (r1,r2)) :
  Calls Try.prog 8 #[.string a0] w fun e w'=>∃ v0_:Value,e = .returned (.tuple #[v0_,.int .i64 r2]) ∧ Kd.R k28 28 w' w.heap.size (fun _=>True) v0_ r1 ∧ Below w.heap.size w w':=by
 have hu28:=Try.underlying28
 have HB:=zk (Below.refl w.heap.size w)
 have H:((q6.f a0 (⟨#[35]⟩:ByteArray)).bind fun bt101=>(q7.l0 k bt101.1 ([]:List (S28)) 0)) = some (r1,r2):=h
 clear h
 replace H:=Option.bind_eq_some_iff.mp H
 obtain ⟨⟨t101,t102,t103⟩,A20,H⟩:=H
 replace H:(q7.l0 k t101 ([]:List (S28)) 0) = some (r1,r2):=H
 have A2:=Aside0.mk A20
 clear A20
 have H':=Aside0.mk H
 clear H
 go_enter Try.func8,Try.ntmps8
 go_wp2_with (first|((with_reducible refine gate_callee (f:=12) rfl ?_);refine goesL_ (some 11) rfl rfl Try.func12 (by kernel_rfl) rfl #[.string a0,.string (⟨#[35]⟩:ByteArray)] rfl oF ?_;(with_reducible refine (q6.calls a0 (⟨#[35]⟩:ByteArray) t101 t102 t103 _ A2.out).mono ?_);rintro e w' ⟨rfl,⟨nd,rfl⟩⟩;refine ⟨_,rfl,?_⟩))
 go_loopg [2,4] k (fun kq v2 v4 w'=>∃ (x2_1:List (S28)) (x4_1:Int),v4 = .int .i64 x4_1 ∧ Aside0 (q7.l0 kq t101 x2_1 x4_1 = some (r1,r2)) ∧ Aside0 (kq ≤ k) ∧ Aside0 (Kd.R k28 28 w' w.heap.size (fun _=>True) v2 x2_1) ∧ Aside0 (Below w.heap.size w w'))
 case atStart=>exact ⟨(([]:List (S28))),(0),oE,H',⟨Nat.le_refl _⟩,⟨by first|exact Kd.R_nil _ _ _ _ _|exact Kd.N_nil _ _ _ _ _|exact Kd.V_nil _ _ _ _ _|exact Kd.Q_nil _ _ _ _ _|exact Kd.S_nil _ _ _ _ _⟩,⟨bq HB.out⟩⟩
 case round =>
  clear H'
  try clear c1
  try clear p2
  obtain ⟨x2_1,x4_1,rfl,HA,HK1,HO_2,HB⟩:=hrel
  cases gk with
  | zero=>exact absurd HA.out (by simp [q7.l0])
  | succ k1 =>
   have H:=HA.out
   clear HA
   simp only [q7.l0] at H
   by_cases c3:x4_1 < (t101.size:Int)
   ·rw [if_pos c3] at H
    have c3b0:decide (x4_1 < (t101.size:Int)) = true:=decide_eq_true c3
    clear c3
    by_cases c4:0 ≤ x4_1
    ·rw [if_pos c4] at H
     have c4b0:decide (0 ≤ x4_1) = true:=decide_eq_true c4
     clear c4
     by_cases c6:(bt t101 x4_1) < 32
     ·rw [if_pos c6] at H
      have c6b0:decide ((bt t101 x4_1) < 32) = true:=decide_eq_true c6
      clear c6
      simp only [Option.some.injEq,Prod.mk.injEq] at H
      obtain ⟨rfl,rfl⟩:=H
      have p5:0 ≤ (x4_1:Int):=oA
      have q5:x4_1 < (t101.size:Int):=oA
      have hx5:=bt_at t101 x4_1
      replace p5:=eq_true p5
      replace q5:=eq_true q5
      go_wp2
      go_ret2
      exact ⟨_,by first|rfl|(simp [errW_none,errW_some] <;> rfl)|(simp [*,errW_none,errW_some] <;> rfl),by first|exact Kd.R_nil _ _ _ _ _|exact Kd.N_nil _ _ _ _ _|exact Kd.V_nil _ _ _ _ _|exact Kd.Q_nil _ _ _ _ _|exact Kd.S_nil _ _ _ _ _,bq HB.out⟩
     ·rw [if_neg c6] at H
      have c6b0:decide ((bt t101 x4_1) < 32) = false:=decide_eq_false c6
      clear c6
      by_cases c8:(bt t101 x4_1) > 126
      ·rw [if_pos c8] at H
       have c8b0:decide (126 < (bt t101 x4_1)) = true:=decide_eq_true c8
       clear c8
       simp only [Option.some.injEq,Prod.mk.injEq] at H
       obtain ⟨rfl,rfl⟩:=H
       have p5:0 ≤ (x4_1:Int):=oA
       have q5:x4_1 < (t101.size:Int):=oA
       have hx5:=bt_at t101 x4_1
       replace p5:=eq_true p5
       replace q5:=eq_true q5
       have p7:0 ≤ (x4_1:Int):=oA
       have q7:x4_1 < (t101.size:Int):=oA
       have hx7:=bt_at t101 x4_1
       replace p7:=eq_true p7
       replace q7:=eq_true q7
       go_wp2
       go_ret2
       exact ⟨_,by first|rfl|(simp [errW_none,errW_some] <;> rfl)|(simp [*,errW_none,errW_some] <;> rfl),by first|exact Kd.R_nil _ _ _ _ _|exact Kd.N_nil _ _ _ _ _|exact Kd.V_nil _ _ _ _ _|exact Kd.Q_nil _ _ _ _ _|exact Kd.S_nil _ _ _ _ _,bq HB.out⟩
      ·rw [if_neg c8] at H
       have c8b0:decide (126 < (bt t101 x4_1)) = false:=decide_eq_false c8
       clear c8
       have H':=Aside0.mk H
       clear H
       have p5:0 ≤ (x4_1:Int):=oA
       have q5:x4_1 < (t101.size:Int):=oA
       have hx5:=bt_at t101 x4_1
       replace p5:=eq_true p5
       replace q5:=eq_true q5
       have p7:0 ≤ (x4_1:Int):=oA
       have q7:x4_1 < (t101.size:Int):=oA
       have hx7:=bt_at t101 x4_1
       replace p7:=eq_true p7
       replace q7:=eq_true q7
       go_wp2
       go_roundg k1
       case measure=>have:=HK1.out;omega
       case rel=>exact ⟨(x2_1),(wrap64 (x4_1 + 1)),oE,H',⟨by have:=HK1.out;omega⟩,⟨rq HO_2.out⟩,⟨bq HB.out⟩⟩
    ·rw [if_neg c4] at H
     exact absurd H (by simp)
   ·rw [if_neg c3] at H
    have c3b0:decide (x4_1 < (t101.size:Int)) = false:=decide_eq_false c3
    clear c3
    have H':=Aside0.mk H
    clear H
    go_wp2
    go_loopg [2,5] k1 (fun kq v2 v5 w'=>∃ (x2_2:List (S28)) (x5_2:Int),v5 = .int .i64 x5_2 ∧ Aside0 (q7.l1 kq t101 x2_2 x5_2 = some (r1,r2)) ∧ Aside0 (kq ≤ k1) ∧ Aside0 (Kd.R k28 28 w' w.heap.size (fun _=>True) v2 x2_2) ∧ Aside0 (Below w.heap.size w w'))
    case atStart=>exact ⟨(x2_1),(0),oE,H',⟨Nat.le_refl _⟩,⟨rq HO_2.out⟩,⟨bq HB.out⟩⟩
    case round =>
     clear H'
     try clear c1
     try clear p2
     try clear c3
     try clear c3b0
     try clear c4
     try clear c4b0
     try clear p5
     try clear q5
     try clear hx5
     try clear c6
     try clear c6b0
     try clear p6
     try clear p7
     try clear q7
     try clear hx7
     try clear c8
     try clear c8b0
     try clear p2
     try clear p5
     try clear p7
     try clear q5
     try clear q7
     obtain ⟨x2_2,x5_2,rfl,HA,HK2,HO_2,HB⟩:=hrel
     cases gk with
     | zero=>exact absurd HA.out (by simp [q7.l1])
     | succ k2 =>
      have H:=HA.out
      clear HA
      simp only [q7.l1] at H
      by_cases c9:x5_2 < (t101.size:Int)
      ·rw [if_pos c9] at H
       have c9b0:decide (x5_2 < (t101.size:Int)) = true:=decide_eq_true c9
       clear c9
       by_cases c10:0 ≤ x5_2
       ·rw [if_pos c10] at H
        have c10b0:decide (0 ≤ x5_2) = true:=decide_eq_true c10
        clear c10
        by_cases c12:(bt t101 x5_2) = 32
        ·rw [if_pos c12] at H
         have c12b0:((bt t101 x5_2) == 32) = true:=beq_iff_eq.mpr c12
         have c12b1:((bt t101 x5_2) != 32) = false:=bne_eq_false_iff_eq.mpr c12
         clear c12
         have H':=Aside0.mk H
         clear H
         have p11:0 ≤ (x5_2:Int):=oA
         have q11:x5_2 < (t101.size:Int):=oA
         have hx11:=bt_at t101 x5_2
         replace p11:=eq_true p11
         replace q11:=eq_true q11
         go_wp2
         go_roundg k2
         case measure=>have:=HK1.out;have:=HK2.out;omega
         case rel=>exact ⟨(x2_2),(wrap64 (x5_2 + 1)),oE,H',⟨by have:=HK1.out;have:=HK2.out;omega⟩,⟨rq HO_2.out⟩,⟨bq HB.out⟩⟩
        ·rw [if_neg c12] at H
         have c12b0:((bt t101 x5_2) == 32) = false:=beq_eq_false_iff_ne.mpr c12
         have c12b1:((bt t101 x5_2) != 32) = true:=bne_iff_ne.mpr c12
         have c13b0:=eq_true (oA:0 ≤ x5_2)
         by_cases c14:x5_2 ≤ (t101.size:Int)
         ·rw [if_pos c14] at H
          have c14b0:=eq_true c14
          have c14b1:decide (x5_2 ≤ (t101.size:Int)) = true:=decide_eq_true c14
          clear c14
          replace H:=Option.bind_eq_some_iff.mp H
          obtain ⟨⟨t104,t105,t106⟩,A150,H⟩:=H
          replace H:(if x2_2.length < 5864062014805 then (q7.l1 k2 t101 (x2_2 ++ [(⟨t104,wrap64 (x5_2 + 1)⟩:S28)]) (wrap64 (x5_2 + (t104.size:Int)))) else (none)) = some (r1,r2):=H
          have A15:=Aside0.mk A150
          clear A150
          by_cases c16:x2_2.length < 5864062014805
          ·rw [if_pos c16] at H
           have LMc16:=Aside0.mk c16
           clear c16
           obtain ⟨y107,hy107⟩:∃ y_:List (S28),y_ = (x2_2 ++ [(⟨t104,wrap64 (x5_2 + 1)⟩:S28)]):=⟨_,rfl⟩
           replace H:(q7.l1 k2 t101 y107 (wrap64 (x5_2 + (t104.size:Int)))) = some (r1,r2):=by first|(rw [hy107];with_reducible exact H)|(have H2_:=(Option.bind_some _ _).symm.trans H;rw [hy107];with_reducible exact H2_)|(have H2_:=(Option.bind_some _ _).symm.trans H;with_reducible exact H2_)|with_reducible exact H|(rw [hy107];exact H)|exact H
           have Ny107:=Aside0.mk hy107
           clear hy107
           have H':=Aside0.mk H
           clear H
           have p11:0 ≤ (x5_2:Int):=oA
           have q11:x5_2 < (t101.size:Int):=oA
           have hx11:=bt_at t101 x5_2
           replace p11:=eq_true p11
           replace q11:=eq_true q11
           go_wp2_with (first|((with_reducible refine gate_callee (f:=12) rfl ?_);refine goesL_ (some 47) rfl rfl Try.func12 (by kernel_rfl) rfl #[.string (t101.extract (x5_2:Int).toNat t101.size),.string (⟨#[32]⟩:ByteArray)] rfl oF ?_;(with_reducible refine (q6.calls (t101.extract (x5_2:Int).toNat t101.size) (⟨#[32]⟩:ByteArray) t104 t105 t106 _ A15.out).mono ?_);rintro e w' ⟨rfl,⟨nd,rfl⟩⟩;refine ⟨_,rfl,?_⟩)|((with_reducible refine gate_builtin (b:=.append) (xs:=#[.tmp 51,.tmp 56]) rfl ?_);at_builtin;refine Kd.R_append k28 (w0:=w) w.heap.size rfl (.tmp 51) (.tmp 56) 24 28 (.agg #[(.string ⟨#[]⟩),(.int .i64 0)]) 24 rfl Try.underlying24 info28 rfl (by decide) (by omega) u2 x2_2 (⟨t104,wrap64 (x5_2 + 1)⟩:S28) [.string t104,.int .i64 (wrap64 (x5_2 + 1))] (fun _=>True) (fun _=>False) rfl rfl ?aP (fun _ hk=>hk.elim) ?aF ?aO ?aB ?aS ?aL ?_;(case aP=>exact k28_mkM _ _ _ (⟨t104,wrap64 (x5_2 + 1)⟩:S28));(case aB=>exact (bq HB.out));(case aF=>exact (fun _ _=>trivial));(case aO=>exact (rq HO_2.out));(case aS=>exact (below_size (bq HB.out)));(case aL=>have:=LMc16.out;omega);intro v108 w17 ho hb hg hat;rw [← Ny107.out] at ho;have n0_:=zk (hb);have n1_:=zk (ho);clear HB;clear HO_2;have HB:=n0_;have HO109:=n1_;clear n0_ n1_;clear ho hb hg hat))
           go_roundg k2
           case measure=>have:=HK1.out;have:=HK2.out;omega
           case rel=>exact ⟨(y107),(wrap64 (x5_2 + (t104.size:Int))),oE,H',⟨by have:=HK1.out;have:=HK2.out;omega⟩,⟨rq HO109.out⟩,⟨bq HB.out⟩⟩
          ·rw [if_neg c16] at H
           exact absurd H (by simp)
         ·rw [if_neg c14] at H
          exact absurd H (by simp)
       ·rw [if_neg c10] at H
        exact absurd H (by simp)
      ·rw [if_neg c9] at H
       have c9b0:decide (x5_2 < (t101.size:Int)) = false:=decide_eq_false c9
       clear c9
       simp only [Option.some.injEq,Prod.mk.injEq] at H
       obtain ⟨rfl,rfl⟩:=H
       go_wp2
       go_ret2
       exact ⟨_,by first|rfl|(simp [errW_none,errW_some] <;> rfl)|(simp [*,errW_none,errW_some] <;> rfl),rq HO_2.out,bq HB.out⟩
theorem eqA28 (d:Nat) (w:World) (x0 y0:ByteArray) (x1 y1:Int) :
  (Op.equalIn (d + 2) 28 (.agg #[.string x0,.int .i64 x1]) (.agg #[.string y0,.int .i64 y1])).run Try.prog w = .ok (x0.toList == y0.toList && (x1 == y1)) w:=by
 refine eqA_of Try.underlying28 (by kernel_rfl) ?_
 refine eqf_cons (by rfl) (by go_simp;rfl) (by go_simp;rfl) (by go_simp) ?_
 exact eqf_last (by rfl) (by go_simp;rfl) (by go_simp;rfl) (by go_simp)
end Go.Proofs.Ytniohifoimhbkaa.Q
namespace Go.Proofs.Ytniohifoimhbkaa.Q
open Go.RowKit Go.Proofs.YtniohifoimhbkaaW.PrintWords Go.Proofs.YtniohifoimhbkaaW.PrintLast Go.Proofs.YtniohifoimhbkaaW.PrintMore
attribute [local go_sem] max2_int min2_int max_two min_two max_three min_three max_four min_four
set_option linter.unusedVariables false
set_option linter.unusedSimpArgs false
attribute [local go_sem high] eqA28
def q1.f (k:Nat)  : Option (Bool):=(q7.f k (⟨#[32,97,32,32,98,35,32,99]⟩:ByteArray)).bind fun bt101=>(if bt101.2 = 0 then (if (bt101.1.length:Int) = 2 then (if 0 < (bt101.1.length:Int) then (if ((((rd_T28 bt101.1 0).f0).toList) == ([97]:List UInt8) && (((rd_T28 bt101.1 0).f1) == 2)) = true then (if 1 < (bt101.1.length:Int) then (some ((((rd_T28 bt101.1 1).f0).toList) == ([98]:List UInt8) && (((rd_T28 bt101.1 1).f1) == 5))) else (none)) else (some false)) else (none)) else (some false)) else (some false))
theorem q1.mono:∀ k,LeO (q1.f k ) (q1.f (k + 1) ):=by
 intro  k
 unfold q1.f
 repeat' first
   | (with_reducible exact q7.mono _ _)
   | (with_reducible exact LeO.refl _)
   | (with_reducible exact LeO.none _)
   | (with_reducible refine LeO.ite ?_ ?_)
   | (with_reducible refine LeO.bind ?_ (fun _=>?_))
   | exact q7.mono _ _
   | exact LeO.none _
   | refine LeO.ite ?_ ?_
   | refine LeO.bind ?_ (fun _=>?_)
set_option maxHeartbeats 8000000 in
set_option maxRecDepth 100000 in
theorem q1.calls (k:Nat)  (r:Bool) (w:World) (h:q1.f k  = some r) :
  Calls Try.prog 10 #[] w fun e w'=>e = .returned (.bool r) ∧ Below w.heap.size w w':=by
 have hu28:=Try.underlying28
 have HB:=zk (Below.refl w.heap.size w)
 have H:((q7.f k (⟨#[32,97,32,32,98,35,32,99]⟩:ByteArray)).bind fun bt101=>(if bt101.2 = 0 then (if (bt101.1.length:Int) = 2 then (if 0 < (bt101.1.length:Int) then (if ((((rd_T28 bt101.1 0).f0).toList) == ([97]:List UInt8) && (((rd_T28 bt101.1 0).f1) == 2)) = true then (if 1 < (bt101.1.length:Int) then (some ((((rd_T28 bt101.1 1).f0).toList) == ([98]:List UInt8) && (((rd_T28 bt101.1 1).f1) == 5))) else (none)) else (some false)) else (none)) else (some false)) else (some false))) = some r:=h
 clear h
 replace H:=Option.bind_eq_some_iff.mp H
 obtain ⟨⟨t101,t102⟩,A10,H⟩:=H
 replace H:(if t102 = 0 then (if (t101.length:Int) = 2 then (if 0 < (t101.length:Int) then (if ((((rd_T28 t101 0).f0).toList) == ([97]:List UInt8) && (((rd_T28 t101 0).f1) == 2)) = true then (if 1 < (t101.length:Int) then (some ((((rd_T28 t101 1).f0).toList) == ([98]:List UInt8) && (((rd_T28 t101 1).f1) == 5))) else (none)) else (some false)) else (none)) else (some false)) else (some false)) = some r:=H
 have A1:=Aside0.mk A10
 clear A10
 by_cases c2:t102 = 0
 ·rw [if_pos c2] at H
  have c2b0:(t102 == 0) = true:=beq_iff_eq.mpr c2
  have c2b1:(t102 != 0) = false:=bne_eq_false_iff_eq.mpr c2
  clear c2
  by_cases c3:(t101.length:Int) = 2
  ·rw [if_pos c3] at H
   have c3b0:((t101.length:Int) == 2) = true:=beq_iff_eq.mpr c3
   have c3b1:((t101.length:Int) != 2) = false:=bne_eq_false_iff_eq.mpr c3
   clear c3
   by_cases c4:0 < (t101.length:Int)
   ·rw [if_pos c4] at H
    have c4b0:decide (0 < (t101.length:Int)) = true:=decide_eq_true c4
    have c4b1:decide (0 < t101.length) = true:=decide_eq_true (by omega)
    clear c4
    by_cases c5:((((rd_T28 t101 0).f0).toList) == ([97]:List UInt8) && (((rd_T28 t101 0).f1) == 2)) = true
    ·rw [if_pos c5] at H
     have c5b0:((((rd_T28 t101 0).f0).toList) == ([97]:List UInt8) && (((rd_T28 t101 0).f1) == 2)) = true:=c5
     (try (have c5b1:decide ((((rd_T28 t101 0).f0).toList) = ([97]:List UInt8) && (((rd_T28 t101 0).f1) == 2)) = true:=by simpa using c5))
     (try (have c5b2:((((rd_T28 t101 0).f0).toList) == ([97]:List UInt8) && (((rd_T28 t101 0).f1) == 2)) = true:=by simpa using c5))
     clear c5
     by_cases c6:1 < (t101.length:Int)
     ·rw [if_pos c6] at H
      have c6b0:decide (1 < (t101.length:Int)) = true:=decide_eq_true c6
      have c6b1:decide (1 < t101.length) = true:=decide_eq_true (by omega)
      clear c6
      obtain rfl:=Option.some.inj H
      go_enter Try.func10,Try.ntmps10
      go_wp2_with (first|((with_reducible refine gate_callee (f:=8) rfl ?_);refine goesL_ (some 4) rfl rfl Try.func8 (by kernel_rfl) rfl #[.string (⟨#[32,97,32,32,98,35,32,99]⟩:ByteArray)] rfl oF ?_;(with_reducible refine (q7.calls k (⟨#[32,97,32,32,98,35,32,99]⟩:ByteArray) t101 t102 _ A1.out).mono ?_);rintro e w7 ⟨v103,rfl,ho0,hb⟩;refine ⟨_,rfl,?_⟩;have n0_:=zk (Kd.R_lower ho0 (below_size (bq HB.out)));have n1_:=zk (below_step (bq HB.out) hb);clear HB;have HO104:=n0_;have HB:=n1_;clear n0_ n1_;(try clear hb);(try clear hb2);(try clear hk);(try clear hi);(try clear ho0);obtain ⟨Ao8,co8,eo8⟩:=Kd.R_slice HO104.out;subst eo8;have p105:0 ≤ (0:Int):=(by omega);have q105:0 < (t101.length:Int):=oA;obtain ⟨ad105,e105,hx105_0,hx105_1⟩:=at_T28 (Kd.R_reads' HO104.out).2.2 0 p105 q105;cases e105;have qi105:(0 < t101.length) = True:=eq_true (by omega);(try rw [show ((0:Int)).toNat = 0 from rfl] at hx105_0);(try rw [show 0 * 2 = 0 from rfl] at hx105_0);(try rw [Addr.add_zero'] at hx105_0);(try rw [show ((0:Int)).toNat = 0 from rfl] at hx105_1);(try rw [show 0 * 2 = 0 from rfl] at hx105_1);(try rw [Addr.add_zero'] at hx105_1);replace p105:=eq_true p105;replace q105:=eq_true q105;have p106:0 ≤ (1:Int):=(by omega);have q106:1 < (t101.length:Int):=oA;obtain ⟨ad106,e106,hx106_0,hx106_1⟩:=at_T28 (Kd.R_reads' HO104.out).2.2 1 p106 q106;obtain rfl:ad105 = ad106:=(by injection e106);(try simp only [show (1:Int).toNat = 1 from rfl,Nat.reduceMul,Nat.reduceEqDiff,Go.Addr.add,↓reduceIte] at hx106_0);(try simp only [show (1:Int).toNat = 1 from rfl,Nat.reduceMul,Nat.reduceEqDiff,Go.Addr.add,↓reduceIte] at hx106_1);have qi106:(1 < t101.length) = True:=eq_true (by omega);(try rw [show ((1:Int)).toNat = 1 from rfl] at hx106_0);(try rw [show 1 * 2 = 2 from rfl] at hx106_0);(try rw [show ((1:Int)).toNat = 1 from rfl] at hx106_1);(try rw [show 1 * 2 = 2 from rfl] at hx106_1);replace p106:=eq_true p106;replace q106:=eq_true q106))
      go_ret
      exact ⟨by first|rfl|(simp [errW_none,errW_some] <;> rfl)|(simp [*,errW_none,errW_some] <;> rfl),bq HB.out⟩
     ·rw [if_neg c6] at H
      exact absurd H (by simp)
    ·rw [if_neg c5] at H
     have c5b0:((((rd_T28 t101 0).f0).toList) == ([97]:List UInt8) && (((rd_T28 t101 0).f1) == 2)) = false:=by simpa using c5
     (try (have c5b1:decide ((((rd_T28 t101 0).f0).toList) = ([97]:List UInt8) && (((rd_T28 t101 0).f1) == 2)) = false:=by simpa using c5))
     (try (have c5b2:((((rd_T28 t101 0).f0).toList) == ([97]:List UInt8) && (((rd_T28 t101 0).f1) == 2)) = false:=by simpa using c5))
     (try (have c5b3:¬ ((((rd_T28 t101 0).f0).toList) = ([97]:List UInt8) && (((rd_T28 t101 0).f1) == 2)):=by simpa using c5))
     clear c5
     obtain rfl:=Option.some.inj H
     go_enter Try.func10,Try.ntmps10
     go_wp2_with (first|((with_reducible refine gate_callee (f:=8) rfl ?_);refine goesL_ (some 4) rfl rfl Try.func8 (by kernel_rfl) rfl #[.string (⟨#[32,97,32,32,98,35,32,99]⟩:ByteArray)] rfl oF ?_;(with_reducible refine (q7.calls k (⟨#[32,97,32,32,98,35,32,99]⟩:ByteArray) t101 t102 _ A1.out).mono ?_);rintro e w9 ⟨v103,rfl,ho0,hb⟩;refine ⟨_,rfl,?_⟩;have n0_:=zk (Kd.R_lower ho0 (below_size (bq HB.out)));have n1_:=zk (below_step (bq HB.out) hb);clear HB;have HO104:=n0_;have HB:=n1_;clear n0_ n1_;(try clear hb);(try clear hb2);(try clear hk);(try clear hi);(try clear ho0);obtain ⟨Ao10,co10,eo10⟩:=Kd.R_slice HO104.out;subst eo10;have p105:0 ≤ (0:Int):=(by omega);have q105:0 < (t101.length:Int):=oA;obtain ⟨ad105,e105,hx105_0,hx105_1⟩:=at_T28 (Kd.R_reads' HO104.out).2.2 0 p105 q105;cases e105;have qi105:(0 < t101.length) = True:=eq_true (by omega);(try rw [show ((0:Int)).toNat = 0 from rfl] at hx105_0);(try rw [show 0 * 2 = 0 from rfl] at hx105_0);(try rw [Addr.add_zero'] at hx105_0);(try rw [show ((0:Int)).toNat = 0 from rfl] at hx105_1);(try rw [show 0 * 2 = 0 from rfl] at hx105_1);(try rw [Addr.add_zero'] at hx105_1);replace p105:=eq_true p105;replace q105:=eq_true q105))
     go_ret
     exact ⟨by first|rfl|(simp [errW_none,errW_some] <;> rfl)|(simp [*,errW_none,errW_some] <;> rfl),bq HB.out⟩
   ·rw [if_neg c4] at H
    exact absurd H (by simp)
  ·rw [if_neg c3] at H
   have c3b0:((t101.length:Int) == 2) = false:=beq_eq_false_iff_ne.mpr c3
   have c3b1:((t101.length:Int) != 2) = true:=bne_iff_ne.mpr c3
   obtain rfl:=Option.some.inj H
   go_enter Try.func10,Try.ntmps10
   go_wp2_with (first|((with_reducible refine gate_callee (f:=8) rfl ?_);refine goesL_ (some 4) rfl rfl Try.func8 (by kernel_rfl) rfl #[.string (⟨#[32,97,32,32,98,35,32,99]⟩:ByteArray)] rfl oF ?_;(with_reducible refine (q7.calls k (⟨#[32,97,32,32,98,35,32,99]⟩:ByteArray) t101 t102 _ A1.out).mono ?_);rintro e w11 ⟨v103,rfl,ho0,hb⟩;refine ⟨_,rfl,?_⟩;have n0_:=zk (Kd.R_lower ho0 (below_size (bq HB.out)));have n1_:=zk (below_step (bq HB.out) hb);clear HB;have HO104:=n0_;have HB:=n1_;clear n0_ n1_;(try clear hb);(try clear hb2);(try clear hk);(try clear hi);(try clear ho0);obtain ⟨Ao12,co12,eo12⟩:=Kd.R_slice HO104.out;subst eo12))
   go_ret
   exact ⟨by first|rfl|(simp [errW_none,errW_some] <;> rfl)|(simp [*,errW_none,errW_some] <;> rfl),bq HB.out⟩
 ·rw [if_neg c2] at H
  have c2b0:(t102 == 0) = false:=beq_eq_false_iff_ne.mpr c2
  have c2b1:(t102 != 0) = true:=bne_iff_ne.mpr c2
  obtain rfl:=Option.some.inj H
  go_enter Try.func10,Try.ntmps10
  go_wp2_with (first|((with_reducible refine gate_callee (f:=8) rfl ?_);refine goesL_ (some 4) rfl rfl Try.func8 (by kernel_rfl) rfl #[.string (⟨#[32,97,32,32,98,35,32,99]⟩:ByteArray)] rfl oF ?_;(with_reducible refine (q7.calls k (⟨#[32,97,32,32,98,35,32,99]⟩:ByteArray) t101 t102 _ A1.out).mono ?_);rintro e w13 ⟨v103,rfl,ho0,hb⟩;refine ⟨_,rfl,?_⟩;have n0_:=zk (Kd.R_lower ho0 (below_size (bq HB.out)));have n1_:=zk (below_step (bq HB.out) hb);clear HB;have HO104:=n0_;have HB:=n1_;clear n0_ n1_;(try clear hb);(try clear hb2);(try clear hk);(try clear hi);(try clear ho0)))
  go_ret
  exact ⟨by first|rfl|(simp [errW_none,errW_some] <;> rfl)|(simp [*,errW_none,errW_some] <;> rfl),bq HB.out⟩
end Go.Proofs.Ytniohifoimhbkaa.Q
namespace Go.Proofs.Ytniohifoimhbkaa.Q
open Go.RowKit Go.Proofs.YtniohifoimhbkaaW.PrintWords Go.Proofs.YtniohifoimhbkaaW.PrintLast Go.Proofs.YtniohifoimhbkaaW.PrintMore
attribute [local go_sem] max2_int min2_int max_two min_two max_three min_three max_four min_four
set_option linter.unusedVariables false
set_option linter.unusedSimpArgs false
mutual
def q0.j0:Nat → ByteArray → ByteArray → Int → Bool → Option (Bool)
 | 0,_,_,_,_=>none
 | k + 1,x0,x1,x2,x17=>if x17 = true then (q0.j1 k x0 x1 9) else (q0.j1 k x0 x1 x2)
def q0.j1:Nat → ByteArray → ByteArray → Int → Option (Bool)
 | 0,_,_,_=>none
 | k + 1,x0,x1,x2=>(q2.f x0).bind fun t101=>(if t101.size + 1 ≤ 9223372036854775807 then ((some (([x2]:List Int):List Int)).bind fun y102=>(if (t101 ++ (⟨#[32]⟩:ByteArray)).size + (strOfNums y102).size ≤ 9223372036854775807 then (if ((t101 ++ (⟨#[32]⟩:ByteArray)) ++ (strOfNums y102)).size + x1.size ≤ 9223372036854775807 then ((q7.f k (((t101 ++ (⟨#[32]⟩:ByteArray)) ++ (strOfNums y102)) ++ x1)).bind fun bt105=>(if (t101 ++ (⟨#[32]⟩:ByteArray)).size + 1 ≤ 9223372036854775807 then ((some (([x2]:List Int):List Int)).bind fun y109=>(if ((t101 ++ (⟨#[32]⟩:ByteArray)) ++ (⟨#[35]⟩:ByteArray)).size + (strOfNums y109).size ≤ 9223372036854775807 then (if (((t101 ++ (⟨#[32]⟩:ByteArray)) ++ (⟨#[35]⟩:ByteArray)) ++ (strOfNums y109)).size + x1.size ≤ 9223372036854775807 then ((q7.f k ((((t101 ++ (⟨#[32]⟩:ByteArray)) ++ (⟨#[35]⟩:ByteArray)) ++ (strOfNums y109)) ++ x1)).bind fun bt112=>(if (bt105.1.length:Int) = 0 then (if bt105.2 = (wrap64 (((t101 ++ (⟨#[32]⟩:ByteArray)).size:Int) + 1)) then (if bt112.2 = 0 then (if (bt112.1.length:Int) = 1 then ((q1.f k).bind fun t116=>(some t116)) else (some false)) else (some false)) else (some false)) else (some false))) else (none)) else (none))) else (none))) else (none)) else (none))) else (none))
end
def q0.f (k:Nat) (a0:ByteArray) (a1:ByteArray) (a2:Int):Option (Bool):=if a2 ≥ 32 then (q0.j0 k a0 a1 a2 (decide (a2 ≤ 126))) else (q0.j0 k a0 a1 a2 false)
set_option maxHeartbeats 8000000 in
set_option maxRecDepth 100000 in
theorem q0.calls (k:Nat) (a0:ByteArray) (a1:ByteArray) (a2:Int) (r:Bool) (w:World) (h:q0.f k a0 a1 a2 = some r) (hrt_:Aside0 (r = true)) :
  Calls Try.prog 4 #[.string a0,.string a1,.int .u8 a2] w fun e w'=>e = .returned (.bool r) ∧ Below w.heap.size w w':=by
 have HB:=zk (Below.refl w.heap.size w)
 have H:(if a2 ≥ 32 then (q0.j0 k a0 a1 a2 (decide (a2 ≤ 126))) else (q0.j0 k a0 a1 a2 false)) = some r:=h
 clear h
 have HC4:=Aside0.mk H
 clear H
 go_enter Try.func4,Try.ntmps4
 go_upto_region 1 with (fail)
 go_cut [17] (fun v17 wc=>∃ (kq:Nat) (x17_3:Bool),v17 = .bool x17_3 ∧ Aside0 (q0.j0 kq a0 a1 a2 x17_3 = some r) ∧ Aside0 (kq ≤ k) ∧ Aside0 (Below w.heap.size w wc))
 case first =>
  have H:=HC4.out
  clear HC4
  by_cases c5:a2 ≥ 32
  ·rw [if_pos c5] at H
   have c5b0:decide (32 ≤ a2) = true:=decide_eq_true c5
   clear c5
   (first|rw [c5b0]|(simp only [i64_w,i32_w];rw [c5b0])|skip)
   have H':=Aside0.mk H
   clear H
   go_wp2
   go_meet
   case rel=>exact ⟨_,(decide (a2 ≤ 126)),oE,H',⟨by first|omega|exact Nat.le_refl _⟩,⟨bq HB.out⟩⟩
  ·rw [if_neg c5] at H
   have c5b0:decide (32 ≤ a2) = false:=decide_eq_false c5
   clear c5
   (first|rw [c5b0]|(simp only [i64_w,i32_w];rw [c5b0])|skip)
   have H':=Aside0.mk H
   clear H
   go_wp2
   go_meet
   case rel=>exact ⟨_,(false),oE,H',⟨by first|omega|exact Nat.le_refl _⟩,⟨bq HB.out⟩⟩
 case rest =>
  clear HC4
  try clear p2
  try clear c4
  try clear c5
  try clear c5b0
  obtain ⟨kq,x17_3,rfl,HA,HJ3,HB⟩:=hcut
  cases kq with
  | zero=>exact absurd HA.out (by simp [q0.j0])
  | succ kj3 =>
   have H:=HA.out
   clear HA
   simp only [q0.j0] at H
   have HC6:=Aside0.mk H
   clear H
   go_upto_if 17 with (fail)
   go_cut [2] (fun v2 wc=>∃ (kq:Nat) (x2_5:Int),v2 = .int .u8 x2_5 ∧ Aside0 (q0.j1 kq a0 a1 x2_5 = some r) ∧ Aside0 (kq ≤ kj3) ∧ Aside0 (Below w.heap.size w wc))
   case first =>
    have H:=HC6.out
    clear HC6
    by_cases c7:x17_3 = true
    ·subst c7
     have H1:(q0.j1 kj3 a0 a1 9) = some r:=by rw [if_pos rfl] at H;exact H
     clear H
     have H:=H1
     clear H1
     have H':=Aside0.mk H
     clear H
     go_wp2
     go_meet
     case rel=>exact ⟨_,(9),oE,H',⟨by have:=HJ3.out;first|omega|exact Nat.le_refl _⟩,⟨bq HB.out⟩⟩
    ·replace c7:=Bool.eq_false_iff.mpr c7
     subst c7
     have H1:(q0.j1 kj3 a0 a1 a2) = some r:=by rw [if_neg (show ¬ (false = true) by decide)] at H;exact H
     clear H
     have H:=H1
     clear H1
     have H':=Aside0.mk H
     clear H
     go_wp2
     go_meet
     case rel=>exact ⟨_,(a2),oE,H',⟨by have:=HJ3.out;first|omega|exact Nat.le_refl _⟩,⟨bq HB.out⟩⟩
   case rest =>
    clear HC6
    try clear p2
    try clear c4
    try clear c5
    try clear c5b0
    try clear c7
    try clear p2
    obtain ⟨kq,x2_5,rfl,HA,HJ5,HB⟩:=hcut
    cases kq with
    | zero=>exact absurd HA.out (by simp [q0.j1])
    | succ kj5 =>
     have H:=HA.out
     clear HA
     simp only [q0.j1] at H
     replace H:=Option.bind_eq_some_iff.mp H
     obtain ⟨t101,A80,H⟩:=H
     replace H:(if t101.size + 1 ≤ 9223372036854775807 then ((some (([x2_5]:List Int):List Int)).bind fun y102=>(if (t101 ++ (⟨#[32]⟩:ByteArray)).size + (strOfNums y102).size ≤ 9223372036854775807 then (if ((t101 ++ (⟨#[32]⟩:ByteArray)) ++ (strOfNums y102)).size + a1.size ≤ 9223372036854775807 then ((q7.f kj5 (((t101 ++ (⟨#[32]⟩:ByteArray)) ++ (strOfNums y102)) ++ a1)).bind fun bt105=>(if (t101 ++ (⟨#[32]⟩:ByteArray)).size + 1 ≤ 9223372036854775807 then ((some (([x2_5]:List Int):List Int)).bind fun y109=>(if ((t101 ++ (⟨#[32]⟩:ByteArray)) ++ (⟨#[35]⟩:ByteArray)).size + (strOfNums y109).size ≤ 9223372036854775807 then (if (((t101 ++ (⟨#[32]⟩:ByteArray)) ++ (⟨#[35]⟩:ByteArray)) ++ (strOfNums y109)).size + a1.size ≤ 9223372036854775807 then ((q7.f kj5 ((((t101 ++ (⟨#[32]⟩:ByteArray)) ++ (⟨#[35]⟩:ByteArray)) ++ (strOfNums y109)) ++ a1)).bind fun bt112=>(if (bt105.1.length:Int) = 0 then (if bt105.2 = (wrap64 (((t101 ++ (⟨#[32]⟩:ByteArray)).size:Int) + 1)) then (if bt112.2 = 0 then (if (bt112.1.length:Int) = 1 then ((q1.f kj5).bind fun t116=>(some t116)) else (some false)) else (some false)) else (some false)) else (some false))) else (none)) else (none))) else (none))) else (none)) else (none))) else (none)) = some r:=H
     have A8:=Aside0.mk A80
     clear A80
     by_cases c9:t101.size + 1 ≤ 9223372036854775807
     ·rw [if_pos c9] at H
      have c9b0:=eq_true c9
      have c9b1:decide (t101.size + 1 ≤ 9223372036854775807) = true:=decide_eq_true c9
      try have c9b2:(9223372036854775807 < t101.size + 1) = False:=eq_false (Nat.not_lt.2 c9)
      obtain ⟨y102,hy102⟩:∃ y_:List Int,y_ = (([x2_5]:List Int)):=⟨_,rfl⟩
      replace H:(if (t101 ++ (⟨#[32]⟩:ByteArray)).size + (strOfNums y102).size ≤ 9223372036854775807 then (if ((t101 ++ (⟨#[32]⟩:ByteArray)) ++ (strOfNums y102)).size + a1.size ≤ 9223372036854775807 then ((q7.f kj5 (((t101 ++ (⟨#[32]⟩:ByteArray)) ++ (strOfNums y102)) ++ a1)).bind fun bt105=>(if (t101 ++ (⟨#[32]⟩:ByteArray)).size + 1 ≤ 9223372036854775807 then ((some (([x2_5]:List Int):List Int)).bind fun y109=>(if ((t101 ++ (⟨#[32]⟩:ByteArray)) ++ (⟨#[35]⟩:ByteArray)).size + (strOfNums y109).size ≤ 9223372036854775807 then (if (((t101 ++ (⟨#[32]⟩:ByteArray)) ++ (⟨#[35]⟩:ByteArray)) ++ (strOfNums y109)).size + a1.size ≤ 9223372036854775807 then ((q7.f kj5 ((((t101 ++ (⟨#[32]⟩:ByteArray)) ++ (⟨#[35]⟩:ByteArray)) ++ (strOfNums y109)) ++ a1)).bind fun bt112=>(if (bt105.1.length:Int) = 0 then (if bt105.2 = (wrap64 (((t101 ++ (⟨#[32]⟩:ByteArray)).size:Int) + 1)) then (if bt112.2 = 0 then (if (bt112.1.length:Int) = 1 then ((q1.f kj5).bind fun t116=>(some t116)) else (some false)) else (some false)) else (some false)) else (some false))) else (none)) else (none))) else (none))) else (none)) else (none)) = some r:=by first|(rw [hy102];with_reducible exact H)|(have H2_:=(Option.bind_some _ _).symm.trans H;rw [hy102];with_reducible exact H2_)|(have H2_:=(Option.bind_some _ _).symm.trans H;with_reducible exact H2_)|with_reducible exact H|(rw [hy102];exact H)|exact H
      have Ny102:=Aside0.mk hy102
      clear hy102
      by_cases c10:(t101 ++ (⟨#[32]⟩:ByteArray)).size + (strOfNums y102).size ≤ 9223372036854775807
      ·rw [if_pos c10] at H
       have c10b0:=eq_true c10
       have c10b1:decide ((t101 ++ (⟨#[32]⟩:ByteArray)).size + (strOfNums y102).size ≤ 9223372036854775807) = true:=decide_eq_true c10
       (try (have c10n:=c10;simp only [ByteArray.size_append,show (⟨#[32]⟩:ByteArray).size = 1 from rfl] at c10n;have c10m:=eq_false (Nat.not_lt.mpr c10n);have c10p:=decide_eq_true c10n))
       try have c10b2:(9223372036854775807 < (t101 ++ (⟨#[32]⟩:ByteArray)).size + (strOfNums y102).size) = False:=eq_false (Nat.not_lt.2 c10)
       by_cases c11:((t101 ++ (⟨#[32]⟩:ByteArray)) ++ (strOfNums y102)).size + a1.size ≤ 9223372036854775807
       ·rw [if_pos c11] at H
        have c11b0:=eq_true c11
        have c11b1:decide (((t101 ++ (⟨#[32]⟩:ByteArray)) ++ (strOfNums y102)).size + a1.size ≤ 9223372036854775807) = true:=decide_eq_true c11
        (try (have c11n:=c11;simp only [ByteArray.size_append,show (⟨#[32]⟩:ByteArray).size = 1 from rfl] at c11n;have c11m:=eq_false (Nat.not_lt.mpr c11n);have c11p:=decide_eq_true c11n))
        try have c11b2:(9223372036854775807 < ((t101 ++ (⟨#[32]⟩:ByteArray)) ++ (strOfNums y102)).size + a1.size) = False:=eq_false (Nat.not_lt.2 c11)
        replace H:=Option.bind_eq_some_iff.mp H
        obtain ⟨⟨t105,t106⟩,A120,H⟩:=H
        replace H:(if (t101 ++ (⟨#[32]⟩:ByteArray)).size + 1 ≤ 9223372036854775807 then ((some (([x2_5]:List Int):List Int)).bind fun y109=>(if ((t101 ++ (⟨#[32]⟩:ByteArray)) ++ (⟨#[35]⟩:ByteArray)).size + (strOfNums y109).size ≤ 9223372036854775807 then (if (((t101 ++ (⟨#[32]⟩:ByteArray)) ++ (⟨#[35]⟩:ByteArray)) ++ (strOfNums y109)).size + a1.size ≤ 9223372036854775807 then ((q7.f kj5 ((((t101 ++ (⟨#[32]⟩:ByteArray)) ++ (⟨#[35]⟩:ByteArray)) ++ (strOfNums y109)) ++ a1)).bind fun bt112=>(if (t105.length:Int) = 0 then (if t106 = (wrap64 (((t101 ++ (⟨#[32]⟩:ByteArray)).size:Int) + 1)) then (if bt112.2 = 0 then (if (bt112.1.length:Int) = 1 then ((q1.f kj5).bind fun t116=>(some t116)) else (some false)) else (some false)) else (some false)) else (some false))) else (none)) else (none))) else (none)) = some r:=H
        have A12:=Aside0.mk A120
        clear A120
        by_cases c13:(t101 ++ (⟨#[32]⟩:ByteArray)).size + 1 ≤ 9223372036854775807
        ·rw [if_pos c13] at H
         have c13b0:=eq_true c13
         have c13b1:decide ((t101 ++ (⟨#[32]⟩:ByteArray)).size + 1 ≤ 9223372036854775807) = true:=decide_eq_true c13
         (try (have c13n:=c13;simp only [ByteArray.size_append,show (⟨#[32]⟩:ByteArray).size = 1 from rfl] at c13n;have c13m:=eq_false (Nat.not_lt.mpr c13n);have c13p:=decide_eq_true c13n))
         try have c13b2:(9223372036854775807 < (t101 ++ (⟨#[32]⟩:ByteArray)).size + 1) = False:=eq_false (Nat.not_lt.2 c13)
         obtain ⟨y109,hy109⟩:∃ y_:List Int,y_ = (([x2_5]:List Int)):=⟨_,rfl⟩
         replace H:(if ((t101 ++ (⟨#[32]⟩:ByteArray)) ++ (⟨#[35]⟩:ByteArray)).size + (strOfNums y109).size ≤ 9223372036854775807 then (if (((t101 ++ (⟨#[32]⟩:ByteArray)) ++ (⟨#[35]⟩:ByteArray)) ++ (strOfNums y109)).size + a1.size ≤ 9223372036854775807 then ((q7.f kj5 ((((t101 ++ (⟨#[32]⟩:ByteArray)) ++ (⟨#[35]⟩:ByteArray)) ++ (strOfNums y109)) ++ a1)).bind fun bt112=>(if (t105.length:Int) = 0 then (if t106 = (wrap64 (((t101 ++ (⟨#[32]⟩:ByteArray)).size:Int) + 1)) then (if bt112.2 = 0 then (if (bt112.1.length:Int) = 1 then ((q1.f kj5).bind fun t116=>(some t116)) else (some false)) else (some false)) else (some false)) else (some false))) else (none)) else (none)) = some r:=by first|(rw [hy109];with_reducible exact H)|(have H2_:=(Option.bind_some _ _).symm.trans H;rw [hy109];with_reducible exact H2_)|(have H2_:=(Option.bind_some _ _).symm.trans H;with_reducible exact H2_)|with_reducible exact H|(rw [hy109];exact H)|exact H
         have Ny109:=Aside0.mk hy109
         clear hy109
         by_cases c14:((t101 ++ (⟨#[32]⟩:ByteArray)) ++ (⟨#[35]⟩:ByteArray)).size + (strOfNums y109).size ≤ 9223372036854775807
         ·rw [if_pos c14] at H
          have c14b0:=eq_true c14
          have c14b1:decide (((t101 ++ (⟨#[32]⟩:ByteArray)) ++ (⟨#[35]⟩:ByteArray)).size + (strOfNums y109).size ≤ 9223372036854775807) = true:=decide_eq_true c14
          (try (have c14n:=c14;simp only [ByteArray.size_append,show (⟨#[32]⟩:ByteArray).size = 1 from rfl] at c14n;have c14m:=eq_false (Nat.not_lt.mpr c14n);have c14p:=decide_eq_true c14n))
          try have c14b2:(9223372036854775807 < ((t101 ++ (⟨#[32]⟩:ByteArray)) ++ (⟨#[35]⟩:ByteArray)).size + (strOfNums y109).size) = False:=eq_false (Nat.not_lt.2 c14)
          by_cases c15:(((t101 ++ (⟨#[32]⟩:ByteArray)) ++ (⟨#[35]⟩:ByteArray)) ++ (strOfNums y109)).size + a1.size ≤ 9223372036854775807
          ·rw [if_pos c15] at H
           have c15b0:=eq_true c15
           have c15b1:decide ((((t101 ++ (⟨#[32]⟩:ByteArray)) ++ (⟨#[35]⟩:ByteArray)) ++ (strOfNums y109)).size + a1.size ≤ 9223372036854775807) = true:=decide_eq_true c15
           (try (have c15n:=c15;simp only [ByteArray.size_append,show (⟨#[32]⟩:ByteArray).size = 1 from rfl] at c15n;have c15m:=eq_false (Nat.not_lt.mpr c15n);have c15p:=decide_eq_true c15n))
           try have c15b2:(9223372036854775807 < (((t101 ++ (⟨#[32]⟩:ByteArray)) ++ (⟨#[35]⟩:ByteArray)) ++ (strOfNums y109)).size + a1.size) = False:=eq_false (Nat.not_lt.2 c15)
           replace H:=Option.bind_eq_some_iff.mp H
           obtain ⟨⟨t112,t113⟩,A160,H⟩:=H
           replace H:(if (t105.length:Int) = 0 then (if t106 = (wrap64 (((t101 ++ (⟨#[32]⟩:ByteArray)).size:Int) + 1)) then (if t113 = 0 then (if (t112.length:Int) = 1 then ((q1.f kj5).bind fun t116=>(some t116)) else (some false)) else (some false)) else (some false)) else (some false)) = some r:=H
           have A16:=Aside0.mk A160
           clear A160
           by_cases c17:(t105.length:Int) = 0
           ·rw [if_pos c17] at H
            have c17b0:((t105.length:Int) == 0) = true:=beq_iff_eq.mpr c17
            have c17b1:((t105.length:Int) != 0) = false:=bne_eq_false_iff_eq.mpr c17
            clear c17
            by_cases c18:t106 = (wrap64 (((t101 ++ (⟨#[32]⟩:ByteArray)).size:Int) + 1))
            ·rw [if_pos c18] at H
             have c18b0:(t106 == (wrap64 (((t101 ++ (⟨#[32]⟩:ByteArray)).size:Int) + 1))) = true:=beq_iff_eq.mpr c18
             have c18b1:(t106 != (wrap64 (((t101 ++ (⟨#[32]⟩:ByteArray)).size:Int) + 1))) = false:=bne_eq_false_iff_eq.mpr c18
             (try (have c18n:=c18b0;simp only [ByteArray.size_append,show (⟨#[32]⟩:ByteArray).size = 1 from rfl,Int.natCast_add,Int.natCast_one] at c18n))
             (try (have e_:∀ x:Int,0 ≤ x → x ≤ 9223372036854775807 → wrap64 x = x:=fun x h0 h1=>(by unfold wrap64;omega);have z_:(t101 ++ (⟨#[32]⟩:ByteArray)).size = t101.size + 1:=(by rw [ByteArray.size_append];rfl);have c18m:=c18n;rw [e_ _ (by omega) (by omega)] at c18m;clear e_ z_))
             clear c18
             by_cases c19:t113 = 0
             ·rw [if_pos c19] at H
              have c19b0:(t113 == 0) = true:=beq_iff_eq.mpr c19
              have c19b1:(t113 != 0) = false:=bne_eq_false_iff_eq.mpr c19
              clear c19
              by_cases c20:(t112.length:Int) = 1
              ·rw [if_pos c20] at H
               have c20b0:((t112.length:Int) == 1) = true:=beq_iff_eq.mpr c20
               have c20b1:((t112.length:Int) != 1) = false:=bne_eq_false_iff_eq.mpr c20
               clear c20
               replace H:=Option.bind_eq_some_iff.mp H
               obtain ⟨t116,A210,H⟩:=H
               replace H:(some t116) = some r:=H
               have A21:=Aside0.mk A210
               clear A210
               obtain rfl:=Option.some.inj H
               go_wp2_with (first|((with_reducible refine gate_callee (f:=7) rfl ?_);refine goesL_ (some 19) rfl rfl Try.func7 (by kernel_rfl) rfl #[.string a0] rfl oF ?_;(with_reducible refine (q2.calls a0 t101 _ A8.out).mono ?_);rintro e w22 ⟨rfl,hb⟩;refine ⟨_,rfl,?_⟩;have n0_:=zk (below_step (bq HB.out) hb);clear HB;have HB:=n0_;clear n0_;(try clear hb);(try clear hb2);(try clear hk);(try clear hi))|((with_reducible refine gate_dst (N:=24) rfl ?_);(try (refine gate_guard (by rfl) ?_;dsimp only));refine Kd.R_lit (Kd.int .u8) _ 5 ?hg (N:=24) ?hd (xs:=([x2_5]:List Int)) (inner:=[.int .u8 x2_5]) (ok:=fun _=>True) (okp:=fun _=>True) ?hr ?hp (fun _ hk=>hk) trivial (Below.refl _ _) (Nat.le_refl _) (by simp) ?_;(case hd=>rfl);(case hg=>rfl);(case hr=>first|(go_simp;done)|(go_simp;rfl));(case hp=>exact (Reps.one (show Kd.M (Kd.int .u8) _ _ _ x2_5 [.int .u8 x2_5] from rfl) (Reps.none _ _)));intro v103 w23 ho24 hb hg_ hnew_;clear hg_ hnew_;(first|rw [← Ny102.out] at ho24|(simp only [Int.reduceToNat] at ho24;rw [← Ny102.out] at ho24));have n0_:=zk (Kd.R_lower ho24 (below_size (bq HB.out)));have n1_:=zk (below_step (bq HB.out) hb);clear HB;have HO104:=n0_;have HB:=n1_;clear n0_ n1_;clear hb ho24;have hcv25:=own_string (P:=Try.prog) Try.underlying34 Try.underlying5 Try.underlying9 (Kd.own_of_R HO104.out))|((with_reducible refine gate_callee (f:=8) rfl ?_);refine goesL_ (some 29) rfl rfl Try.func8 (by kernel_rfl) rfl #[.string (((t101 ++ (⟨#[32]⟩:ByteArray)) ++ (strOfNums y102)) ++ a1)] rfl oF ?_;(with_reducible refine (q7.calls kj5 (((t101 ++ (⟨#[32]⟩:ByteArray)) ++ (strOfNums y102)) ++ a1) t105 t106 _ A12.out).mono ?_);rintro e w26 ⟨v107,rfl,ho0,hb⟩;refine ⟨_,rfl,?_⟩;have n0_:=zk (Kd.R_below (rq HO104.out) hb);have n1_:=zk (Kd.R_lower ho0 (below_size (bq HB.out)));have n2_:=zk (below_step (bq HB.out) hb);clear HO104;clear HB;have HO104:=n0_;have HO108:=n1_;have HB:=n2_;clear n0_ n1_ n2_;(try clear hb);(try clear hb2);(try clear hk);(try clear hi);(try clear ho0))|((with_reducible refine gate_dst (N:=36) rfl ?_);(try (refine gate_guard (by rfl) ?_;dsimp only));refine Kd.R_lit (Kd.int .u8) _ 5 ?hg (N:=36) ?hd (xs:=([x2_5]:List Int)) (inner:=[.int .u8 x2_5]) (ok:=fun _=>True) (okp:=fun _=>True) ?hr ?hp (fun _ hk=>hk) trivial (Below.refl _ _) (Nat.le_refl _) (by simp) ?_;(case hd=>rfl);(case hg=>rfl);(case hr=>first|(go_simp;done)|(go_simp;rfl));(case hp=>exact (Reps.one (show Kd.M (Kd.int .u8) _ _ _ x2_5 [.int .u8 x2_5] from rfl) (Reps.none _ _)));intro v110 w27 ho28 hb hg_ hnew_;clear hg_ hnew_;(first|rw [← Ny109.out] at ho28|(simp only [Int.reduceToNat] at ho28;rw [← Ny109.out] at ho28));have n0_:=zk (Kd.R_elder' (rq HO104.out) (Kd.R_base ho28) hb);have n1_:=zk (Kd.R_below (rq HO108.out) hb);have n2_:=zk (Kd.R_lower (Kd.R_new' ho28 (Kd.R_lt (rq HO104.out))) (below_size (bq HB.out)));have n3_:=zk (below_step (bq HB.out) hb);clear HO104;clear HO108;clear HB;have HO104:=n0_;have HO108:=n1_;have HO111:=n2_;have HB:=n3_;clear n0_ n1_ n2_ n3_;clear hb ho28;have hcv29:=own_string (P:=Try.prog) Try.underlying34 Try.underlying5 Try.underlying9 (Kd.own_of_R HO111.out))|((with_reducible refine gate_callee (f:=8) rfl ?_);refine goesL_ (some 41) rfl rfl Try.func8 (by kernel_rfl) rfl #[.string ((((t101 ++ (⟨#[32]⟩:ByteArray)) ++ (⟨#[35]⟩:ByteArray)) ++ (strOfNums y109)) ++ a1)] rfl oF ?_;(with_reducible refine (q7.calls kj5 ((((t101 ++ (⟨#[32]⟩:ByteArray)) ++ (⟨#[35]⟩:ByteArray)) ++ (strOfNums y109)) ++ a1) t112 t113 _ A16.out).mono ?_);rintro e w30 ⟨v114,rfl,ho0,hb⟩;refine ⟨_,rfl,?_⟩;have n0_:=zk (Kd.R_below (rq HO104.out) hb);have n1_:=zk (Kd.R_elder' (rq HO108.out) (Kd.R_base ho0) hb);have n2_:=zk (Kd.R_below (rq HO111.out) hb);have n3_:=zk (Kd.R_lower (Kd.R_new' ho0 (Kd.R_lt (rq HO108.out))) (below_size (bq HB.out)));have n4_:=zk (below_step (bq HB.out) hb);clear HO104;clear HO108;clear HO111;clear HB;have HO104:=n0_;have HO108:=n1_;have HO111:=n2_;have HO115:=n3_;have HB:=n4_;clear n0_ n1_ n2_ n3_ n4_;(try clear hb);(try clear hb2);(try clear hk);(try clear hi);(try clear ho0);obtain ⟨Ao31,co31,eo31⟩:=Kd.R_slice HO108.out;subst eo31;obtain ⟨Ao32,co32,eo32⟩:=Kd.R_slice HO115.out;subst eo32)|(go_at_call 10;(with_reducible refine (q1.calls kj5  t116 _ A21.out).mono ?_);rintro e w33 ⟨rfl,hb⟩;have n0_:=zk (Kd.R_below (rq HO104.out) hb);have n1_:=zk (Kd.R_below (rq HO108.out) hb);have n2_:=zk (Kd.R_below (rq HO111.out) hb);have n3_:=zk (Kd.R_below (rq HO115.out) hb);have n4_:=zk (below_step (bq HB.out) hb);clear HO104;clear HO108;clear HO111;clear HO115;clear HB;have HO104:=n0_;have HO108:=n1_;have HO111:=n2_;have HO115:=n3_;have HB:=n4_;clear n0_ n1_ n2_ n3_ n4_;(try clear hb);(try clear hb2);(try clear hk);(try clear hi)))
               go_ret
               exact ⟨by first|rfl|(simp [errW_none,errW_some] <;> rfl)|(simp [*,errW_none,errW_some] <;> rfl),bq HB.out⟩
              ·rw [if_neg c20] at H
               have c20b0:((t112.length:Int) == 1) = false:=beq_eq_false_iff_ne.mpr c20
               have c20b1:((t112.length:Int) != 1) = true:=bne_iff_ne.mpr c20
               exact absurd (H.trans (congrArg some hrt_.out)) (by simp)
             ·rw [if_neg c19] at H
              have c19b0:(t113 == 0) = false:=beq_eq_false_iff_ne.mpr c19
              have c19b1:(t113 != 0) = true:=bne_iff_ne.mpr c19
              exact absurd (H.trans (congrArg some hrt_.out)) (by simp)
            ·rw [if_neg c18] at H
             have c18b0:(t106 == (wrap64 (((t101 ++ (⟨#[32]⟩:ByteArray)).size:Int) + 1))) = false:=beq_eq_false_iff_ne.mpr c18
             have c18b1:(t106 != (wrap64 (((t101 ++ (⟨#[32]⟩:ByteArray)).size:Int) + 1))) = true:=bne_iff_ne.mpr c18
             (try (have c18n:=c18b0;simp only [ByteArray.size_append,show (⟨#[32]⟩:ByteArray).size = 1 from rfl,Int.natCast_add,Int.natCast_one] at c18n))
             (try (have e_:∀ x:Int,0 ≤ x → x ≤ 9223372036854775807 → wrap64 x = x:=fun x h0 h1=>(by unfold wrap64;omega);have z_:(t101 ++ (⟨#[32]⟩:ByteArray)).size = t101.size + 1:=(by rw [ByteArray.size_append];rfl);have c18m:=c18n;rw [e_ _ (by omega) (by omega)] at c18m;clear e_ z_))
             exact absurd (H.trans (congrArg some hrt_.out)) (by simp)
           ·rw [if_neg c17] at H
            have c17b0:((t105.length:Int) == 0) = false:=beq_eq_false_iff_ne.mpr c17
            have c17b1:((t105.length:Int) != 0) = true:=bne_iff_ne.mpr c17
            have c17b2:¬ (t105 = []):=fun h_=>c17 (by rw [h_];rfl)
            exact absurd (H.trans (congrArg some hrt_.out)) (by simp)
          ·rw [if_neg c15] at H
           exact absurd H (by simp)
         ·rw [if_neg c14] at H
          exact absurd H (by simp)
        ·rw [if_neg c13] at H
         exact absurd H (by simp)
       ·rw [if_neg c11] at H
        exact absurd H (by simp)
      ·rw [if_neg c10] at H
       exact absurd H (by simp)
     ·rw [if_neg c9] at H
      exact absurd H (by simp)
def q0.Pure:Prop:=∀ (a0:ByteArray) (a1:ByteArray) (a2:Int),a0.size ≤ 140737488351232 → a1.size ≤ 140737488351232 → (Lit.int .u8 a2).wf = true → ∃ k,q0.f k a0 a1 a2 = some true
theorem q0.walk (P:q0.Pure) (a0:ByteArray) (a1:ByteArray) (a2:Int) (w:World) (w0:a0.size ≤ 140737488351232) (w1:a1.size ≤ 140737488351232) (w2:(Lit.int .u8 a2).wf = true) :
  Calls Try.prog 4 #[.string a0,.string a1,.int .u8 a2] w fun e w'=>e = .returned (.bool true) ∧ Below w.heap.size w w':=by
 obtain ⟨k,h⟩:=P a0 a1 a2 w0 w1 w2
 refine (q0.calls k a0 a1 a2 true w h ⟨rfl⟩).mono ?_
 rintro e w' ⟨rfl,hd⟩
 exact ⟨rfl,hd⟩
end Go.Proofs.Ytniohifoimhbkaa.Q
namespace Go.Proofs.Ytniohifoimhbkaa.M
open Go.RowKit Go.Proofs.YtniohifoimhbkaaW.PrintWords Go.Proofs.YtniohifoimhbkaaW.PrintLast Go.Proofs.YtniohifoimhbkaaW.PrintMore
set_option linter.unusedVariables false
theorem w64 {x:Int} (h0:-9223372036854775808 ≤ x) (h1:x ≤ 9223372036854775807):wrap64 x = x:=by unfold wrap64;omega
theorem w1 (i:Nat) (h:i < 4611686018427387904):wrap64 ((i:Int) + 1) = ((i + 1:Nat):Int):=by rw [w64 (by omega) (by omega)];omega
theorem Ev.bd {α β:Type} {g:Nat → Option α} {f:Nat → α → Option β} {a:α} {r:β} (h:Ev g a) (k:Ev (fun n=>f n a) r):Ev (fun n=>(g n).bind (fun x=>f n x)) r:=Ev.bind h k
theorem Ev.som {α β:Type} {f:Nat → α → Option β} {a:α} {r:β} (k:Ev (fun n=>f n a) r):Ev (fun n=>(some a).bind (fun x=>f n x)) r:=k
theorem Ev.pos {α:Type} {c:Prop} [Decidable c] {f g:Nat → Option α} {r:α} (h:c) (k:Ev f r):Ev (fun n=>if c then f n else g n) r:=by simpa [h] using k
theorem Ev.neg {α:Type} {c:Prop} [Decidable c] {f g:Nat → Option α} {r:α} (h:¬ c) (k:Ev g r):Ev (fun n=>if c then f n else g n) r:=by simpa [h] using k
theorem Ev.ite {α:Type} {c:Prop} [Decidable c] {f g:Nat → Option α} {r s:α} (k:c → Ev f r) (l:¬ c → Ev g s):Ev (fun n=>if c then f n else g n) (if c then r else s):=by
 by_cases h:c
 ·simpa [h] using k h
 ·simpa [h] using l h
theorem Ev.val {α:Type} {g:Nat → Option α} {r s:α} (h:Ev g r) (e:r = s):Ev g s:=e ▸ h
theorem Ev.un {α:Type} {g:Nat → Option α} {r s:α} (h:Ev g r) (h' : Ev g s):r = s:=by
 obtain ⟨K,h⟩:=h
 obtain ⟨L,h'⟩:=h'
 have a:=h (max K L) (Nat.le_max_left _ _)
 have b:=h' (max K L) (Nat.le_max_right _ _)
 rw [a] at b;exact Option.some.inj b
end Go.Proofs.Ytniohifoimhbkaa.M
namespace Go.Proofs.Ytniohifoimhbkaa.M
open Go.RowKit Go.Proofs.YtniohifoimhbkaaW.PrintWords Go.Proofs.YtniohifoimhbkaaW.PrintLast Go.Proofs.YtniohifoimhbkaaW.PrintMore Go.Proofs.Ytniohifoimhbkaa.Q
set_option linter.unusedVariables false
set_option linter.unusedSectionVars false
theorem bt_nat (s:ByteArray) (k:Nat) (h:k < s.size):bt s (k:Int) = ((s[k]'h).toNat:Int):=by
 unfold bt
 rw [dif_pos (by rw [Int.toNat_natCast];exact h)]
 simp only [Int.toNat_natCast]
theorem bt_ext (s:ByteArray) (a b k:Nat) (h:k < (s.extract a b).size):bt (s.extract a b) (k:Int) = bt s ((a + k:Nat):Int):=by
 have h':=h
 rw [ByteArray.size_extract] at h'
 rw [bt_nat _ _ h,bt_nat _ _ (by omega),ByteArray.getElem_extract]
theorem bt_list (s:ByteArray) (k:Nat) (h:k < s.size) (c:UInt8):s.data.toList[k]? = some c ↔ bt s (k:Int) = (c.toNat:Int):=by
 rw [bt_nat s k h]
 have e:s.data.toList[k]? = some (s[k]'h):=by
  rw [List.getElem?_eq_getElem (by rw [Array.length_toList];exact h)]
  rfl
 rw [e]
 constructor
 ·intro h;rw [Option.some.inj h]
 ·intro h
  congr 1
  exact UInt8.toNat_inj.1 (by omega)
def CutAt (s:ByteArray) (c:Int) (m:Nat):Prop:=m ≤ s.size ∧ (∀ k:Nat,k < m → bt s (k:Int) ≠ c) ∧ (m = s.size ∨ bt s (m:Int) = c)
theorem index_one (s:ByteArray) (c:UInt8):q4.f s ⟨#[c]⟩ = some (Lib.indexByte s.data.toList c):=rfl
theorem cut_one (s:ByteArray) (c:UInt8) (hs:s.size < 4611686018427387904):∃ (m:Nat) (x:ByteArray) (b:Bool),q6.f s ⟨#[c]⟩ = some (s.extract 0 m,x,b) ∧ CutAt s c.toNat m:=by
 unfold q6.f q5.f
 rw [index_one]
 have hge:=Lib.indexByte_ge s.data.toList c
 by_cases h:Lib.indexByte s.data.toList c = -1
 ·refine ⟨s.size,⟨#[]⟩,false,?_,Nat.le_refl _,fun k hk e=>?_,.inl rfl⟩
  ·rw [h]
   simp only [Option.bind_some]
   rw [if_neg (by omega),Option.bind_some]
   congr 1
   rw [show s.extract 0 s.size = s by simp]
  ·exact Lib.indexByte_none h k ((bt_list s k hk c).2 e)
 ·obtain ⟨o,ho⟩:∃ o:Nat,Lib.indexByte s.data.toList c = o:=⟨(Lib.indexByte s.data.toList c).toNat,by omega⟩
  obtain ⟨h1,h2⟩:=Lib.indexByte_some ho
  have hlt:o < s.size:=by
   rcases Nat.lt_or_ge o s.size with h|h
   ·exact h
   ·rw [List.getElem?_eq_none (by rw [Array.length_toList];exact h)] at h1;cases h1
  have hw:wrap64 ((o:Int) + (((⟨#[c]⟩:ByteArray)).size:Int)) = ((o + 1:Nat):Int):=by
   show wrap64 ((o:Int) + 1) = _
   exact w1 o (by omega)
  refine ⟨o,s.extract ((o + 1:Nat):Int).toNat s.size,true,?_,by omega,fun k hk e=>h2 k hk ((bt_list s k (by omega) c).2 e),.inr ((bt_list s o hlt c).1 h1)⟩
  rw [ho]
  simp only [Option.bind_some]
  rw [if_pos (by omega),if_pos (by omega),if_pos (by omega),hw,if_pos (by omega),if_pos (by omega),Option.bind_some,Int.toNat_natCast]
section
variable {s:ByteArray} {m:Nat} (hs:s.size ≤ 1000000) (hm:CutAt s 35 m)
include hs hm
end
end Go.Proofs.Ytniohifoimhbkaa.M
namespace Go.Proofs.Ytniohifoimhbkaa.M
open Go.RowKit Go.Proofs.YtniohifoimhbkaaW.PrintWords Go.Proofs.YtniohifoimhbkaaW.PrintLast Go.Proofs.YtniohifoimhbkaaW.PrintMore Go.Proofs.Ytniohifoimhbkaa.Q
set_option linter.unusedVariables false
theorem bt_app (a b:ByteArray) (k:Nat) (h:k < (a ++ b).size):bt (a ++ b) (k:Int) = if k < a.size then bt a (k:Int) else bt b ((k - a.size:Nat):Int):=by
 have hs:(a ++ b).size = a.size + b.size:=ByteArray.size_append ..
 rw [bt_nat _ _ h]
 by_cases c:k < a.size
 ·rw [if_pos c,bt_nat _ _ c,ByteArray.getElem_append_left c]
 ·rw [if_neg c,bt_nat _ _ (by omega),ByteArray.getElem_append_right (by omega)]
theorem bt_app_l {a b:ByteArray} {k:Nat} (h:k < a.size):bt (a ++ b) (k:Int) = bt a (k:Int):=by
 rw [bt_app a b k (by rw [ByteArray.size_append];omega),if_pos h]
theorem bt_app_r {a b:ByteArray} {k:Nat} (h:a.size ≤ k) (h' : k < a.size + b.size):bt (a ++ b) (k:Int) = bt b ((k - a.size:Nat):Int):=by
 rw [bt_app a b k (by rw [ByteArray.size_append];exact h'),if_neg (by omega)]
theorem CutAt.un {s:ByteArray} {c:Int} {m m' : Nat} (h:CutAt s c m) (h' : CutAt s c m'):m = m':=by
 rcases Nat.lt_trichotomy m m' with l|e|l
 ·rcases h.2.2 with g|g
  ·have:=h'.1;omega
  ·exact absurd g (h'.2.1 m l)
 ·exact e
 ·rcases h'.2.2 with g|g
  ·have:=h.1;omega
  ·exact absurd g (h.2.1 m' l)
def Lx (s:ByteArray) (m:Nat):Nat → List S28 → Prop
 | x,[]=>∀ k:Nat,x ≤ k → k < m → bt s (k:Int) = 32
 | x,w :: ws=>∃ c len:Nat,x ≤ c ∧ 0 < len ∧ c + len ≤ m ∧ w = ⟨s.extract c (c + len),((c + 1:Nat):Int)⟩ ∧ (∀ k:Nat,x ≤ k → k < c → bt s (k:Int) = 32) ∧ (∀ k:Nat,c ≤ k → k < c + len → bt s (k:Int) ≠ 32) ∧
   (c + len = m ∨ bt s ((c + len:Nat):Int) = 32) ∧ Lx s m (c + len) ws
section
variable {s:ByteArray} {m:Nat} (hs:s.size < 4611686018427387904) (hm:CutAt s 35 m)
include hs hm
omit hs in
theorem line_bt' {k:Nat} (hk:k < m):bt (s.extract 0 m) (k:Int) = bt s (k:Int):=by
 have:=hm.1
 rw [bt_ext _ _ _ _ (by rw [ByteArray.size_extract];omega),Nat.zero_add]
omit hs in
theorem line_size' : (s.extract 0 m).size = m:=by
 have:=hm.1
 rw [ByteArray.size_extract];omega
theorem lx_blanks (acc:List S28) (r:List S28 × Int) (c:Nat) (hc:c ≤ m) (h:Ev (fun k=>q7.l1 k (s.extract 0 m) acc (c:Int)) r):∀ (d x:Nat),x + d = c → (∀ k:Nat,x ≤ k → k < c → bt s (k:Int) = 32) → Ev (fun k=>q7.l1 k (s.extract 0 m) acc (x:Int)) r:=by
 have hz:=line_size' hm
 have hmm:=hm.1
 intro d
 induction d with
 | zero =>
  intro x hx _
  obtain rfl:x = c:=by omega
  exact h
 | succ d ih =>
  intro x hx hb
  refine Ev.step (fun k=>q7.l1.eq_2 ..) ?_
  rw [line_bt' hm (by omega),w1 x (by omega)]
  exact Ev.pos (by omega) (Ev.pos (by omega) (Ev.pos (hb x (by omega) (by omega)) (ih (x + 1) (by omega) (fun k a b=>hb k (by omega) b))))
theorem lx_l1:∀ (ws:List S28) (x:Nat) (acc:List S28),x ≤ m → Lx s m x ws → acc.length + ws.length < 5864062014805 → Ev (fun k=>q7.l1 k (s.extract 0 m) acc (x:Int)) (acc ++ ws,0):=by
 have hz:=line_size' hm
 have hmm:=hm.1
 intro ws
 induction ws with
 | nil =>
  intro x acc hx h hl
  have h' : ∀ k:Nat,x ≤ k → k < m → bt s (k:Int) = 32:=h
  refine lx_blanks hs hm acc _ m (Nat.le_refl _) ?_ (m - x) x (by omega) h'
  refine Ev.step (fun k=>q7.l1.eq_2 ..) ?_
  exact Ev.neg (by omega) (Ev.val (Ev.now _) (by rw [List.append_nil]))
 | cons w ws ih =>
  intro x acc hx h hl
  obtain ⟨c,len,h1,h2,h3,rfl,h5,h6,h7,h8⟩:=h
  rw [List.length_cons] at hl
  refine lx_blanks hs hm acc _ c (by omega) ?_ (c - x) x (by omega) h5
  obtain ⟨n,y,b,hc,g1,g2,g3⟩:=cut_one ((s.extract 0 m).extract c m) 32 (by rw [ByteArray.size_extract,hz];omega)
  have hz2:((s.extract 0 m).extract c m).size = m - c:=by rw [ByteArray.size_extract,hz];omega
  have hb2:∀ k:Nat,k < m - c → bt ((s.extract 0 m).extract c m) (k:Int) = bt s ((c + k:Nat):Int):=by
   intro k hk
   rw [bt_ext _ _ _ _ (by omega),line_bt' hm (by omega)]
  rw [hz2] at g1 g3
  have g3:n = m - c ∨ bt ((s.extract 0 m).extract c m) (n:Int) = 32:=g3
  have g2:∀ k:Nat,k < n → bt ((s.extract 0 m).extract c m) (k:Int) ≠ 32:=g2
  have hn:n = len:=by
   rcases Nat.lt_trichotomy n len with l|e|l
   ·rcases g3 with g|g
    ·omega
    ·rw [hb2 n (by omega)] at g
     exact absurd g (h6 (c + n) (by omega) (by omega))
   ·exact e
   ·have:=g2 len l
    rw [hb2 len (by omega)] at this
    rcases h7 with h|h
    ·omega
    ·exact absurd h this
  subst hn
  have ht:((s.extract 0 m).extract c m).extract 0 n = s.extract c (c + n):=by
   rw [ByteArray.extract_extract,ByteArray.extract_extract]
   congr 1 <;> omega
  have htz:(s.extract c (c + n)).size = n:=by rw [ByteArray.size_extract];omega
  refine Ev.step (fun k=>q7.l1.eq_2 ..) ?_
  rw [line_bt' hm (by omega),Int.toNat_natCast,hz,hc]
  refine Ev.pos (by omega) (Ev.pos (by omega) (Ev.neg (h6 c (by omega) (by omega)) (Ev.pos (by omega) (Ev.som (Ev.pos (by omega) ?_)))))
  rw [ht,htz,w1 c (by omega),w64 (x:=(c:Int) + (n:Int)) (by omega) (by omega),show (c:Int) + (n:Int) = ((c + n:Nat):Int) by omega]
  have:=ih (c + n) (acc ++ [⟨s.extract c (c + n),((c + 1:Nat):Int)⟩]) (by omega) h8 (by rw [List.length_append,List.length_singleton];omega)
  exact Ev.val this (by simp)
theorem ok_l0 (r:List S28 × Int) (h:Ev (fun k=>q7.l1 k (s.extract 0 m) [] 0) r) (hok:∀ k:Nat,k < m → 32 ≤ bt s (k:Int) ∧ bt s (k:Int) ≤ 126):∀ (d x:Nat),x + d = m → Ev (fun k=>q7.l0 k (s.extract 0 m) [] (x:Int)) r:=by
 have hz:=line_size' hm
 have hmm:=hm.1
 intro d
 induction d with
 | zero =>
  intro x hx
  refine Ev.step (fun k=>q7.l0.eq_2 ..) ?_
  exact Ev.neg (by omega) h
 | succ d ih =>
  intro x hx
  have hk:=hok x (by omega)
  refine Ev.step (fun k=>q7.l0.eq_2 ..) ?_
  rw [line_bt' hm (by omega),w1 x (by omega)]
  exact Ev.pos (by omega) (Ev.pos (by omega) (Ev.neg (by omega) (Ev.neg (by omega) (ih (x + 1) (by omega)))))
theorem bad_l0 (j:Nat) (hj:j < m) (hbad:bt s (j:Int) < 32 ∨ bt s (j:Int) > 126) (hok:∀ k:Nat,k < j → 32 ≤ bt s (k:Int) ∧ bt s (k:Int) ≤ 126):∀ (d x:Nat),x + d = j → Ev (fun k=>q7.l0 k (s.extract 0 m) [] (x:Int)) ([],((j + 1:Nat):Int)):=by
 have hz:=line_size' hm
 have hmm:=hm.1
 intro d
 induction d with
 | zero =>
  intro x hx
  obtain rfl:x = j:=by omega
  refine Ev.step (fun k=>q7.l0.eq_2 ..) ?_
  rw [line_bt' hm (by omega),w1 x (by omega)]
  refine Ev.pos (by omega) (Ev.pos (by omega) ?_)
  by_cases h1:bt s (x:Int) < 32
  ·exact Ev.pos h1 (Ev.now _)
  ·exact Ev.neg h1 (Ev.pos (hbad.resolve_left h1) (Ev.now _))
 | succ d ih =>
  intro x hx
  have hk:=hok x (by omega)
  refine Ev.step (fun k=>q7.l0.eq_2 ..) ?_
  rw [line_bt' hm (by omega),w1 x (by omega)]
  exact Ev.pos (by omega) (Ev.pos (by omega) (Ev.neg (by omega) (Ev.neg (by omega) (ih (x + 1) (by omega)))))
theorem split_at (r:List S28 × Int) (h:Ev (fun k=>q7.l0 k (s.extract 0 m) [] 0) r):Ev (fun k=>q7.f k s) r:=by
 unfold q7.f
 obtain ⟨m',x,b,hc,hm'⟩:=cut_one s 35 hs
 have hm'' : CutAt s 35 m':=hm'
 obtain rfl:=CutAt.un hm hm''
 rw [hc]
 exact Ev.som h
theorem split_words {ws:List S28} (h:Lx s m 0 ws) (hl:ws.length < 5864062014805) (hok:∀ k:Nat,k < m → 32 ≤ bt s (k:Int) ∧ bt s (k:Int) ≤ 126):Ev (fun k=>q7.f k s) (ws,0):=by
 refine split_at hs hm _ (ok_l0 hs hm _ ?_ hok m 0 (by omega))
 have:=lx_l1 hs hm ws 0 [] (by omega) h (by simpa using hl)
 exact this
theorem split_bad (j:Nat) (hj:j < m) (hbad:bt s (j:Int) < 32 ∨ bt s (j:Int) > 126) (hok:∀ k:Nat,k < j → 32 ≤ bt s (k:Int) ∧ bt s (k:Int) ≤ 126):Ev (fun k=>q7.f k s) ([],((j + 1:Nat):Int)) :=
 split_at hs hm _ (bad_l0 hs hm j hj hbad hok j 0 (by omega))
end
def Clean (t:ByteArray):Prop:=0 < t.size ∧ t.size ≤ 11 ∧ ∀ k:Nat,k < t.size → 33 ≤ bt t (k:Int) ∧ bt t (k:Int) ≤ 126 ∧ bt t (k:Int) ≠ 35
theorem clean_f (a:ByteArray):∃ t,q2.f a = some t ∧ Clean t:=by
 refine ⟨_,rfl,?_⟩
 have hsz:(cleanB (a.data.toList.take 10)).size = (cleanL (a.data.toList.take 10)).length + 1:=by
  unfold cleanB;simp [ByteArray.size]
 have hl:(cleanL (a.data.toList.take 10)).length ≤ 10:=Nat.le_trans (List.length_filter_le _ _) (by rw [List.length_take];omega)
 refine ⟨by omega,by omega,fun k hk=>?_⟩
 have hmem:∀ c ∈ ((119:UInt8) :: cleanL (a.data.toList.take 10)),33 ≤ c.toNat ∧ c.toNat ≤ 126 ∧ c.toNat ≠ 35:=by
  intro c hc
  rcases List.mem_cons.1 hc with rfl|hc
  ·decide
  ·have:=(List.mem_filter.1 hc).2
   simp only [Bool.and_eq_true,decide_eq_true_eq,bne_iff_ne,ne_eq] at this
   omega
 rw [bt_nat _ _ hk]
 have hin:(cleanB (a.data.toList.take 10))[k] ∈ ((119:UInt8) :: cleanL (a.data.toList.take 10)):=by
  have:(cleanB (a.data.toList.take 10))[k] = ((119:UInt8) :: cleanL (a.data.toList.take 10))[k]'(by rw [List.length_cons];omega):=rfl
  rw [this];exact List.getElem_mem _
 have:=hmem _ hin
 omega
theorem wakes1_f:Ev (fun k=>q1.f k) true:=Ev.of (fun k=>q1.mono k) (k:=30) (by decide +kernel)
end Go.Proofs.Ytniohifoimhbkaa.M
