/- The row of the law WordsJoin. Conditions: none. -/
import Derived.Test.YtniohifoimhbkaaRows
import Derived.Test.YtniohifoimhbkaaKWordsJoin1
import Derived.ProofKit
import Derived.OpenShut
import Derived.ShutString
import Derived.ChangeOld
import Derived.Test.YtniohifoimhbkaaWSized
namespace Go.Proofs.Ytniohifoimhbkaa.wordsJoin
open Go.ChangeShapes Go.WideShapes Go.ChangeAt Go.RowKit Go.Proofs.YtniohifoimhbkaaW.PrintWords
open Go.ChangeMaps (open_string shut_string)
set_option linter.unusedVariables false
theorem own:ownKnob Try.prog.godebug = none:=by kernel_rfl
theorem laidOut:laidOutB Try.prog = true:=by kernel_rfl
set_option maxRecDepth 100000 in
theorem lifted (os:Os) (started:os.Started) (H:Type) (enc:TypeId × Value → H) :
    ReturnsInHanded {} Try.checked os 3 .any (Rows.wordsJoinSpec.pre6 enc Try.prog Try.f3 Rows.wordsJoinRow.domain false) (Rows.wordsJoinSpec.post enc Try.prog Try.f3 false true false false):=by
  refine returnsInHanded_of_change_sized (C:=Try.checked) own started (by kernel_rfl) Try.func3
    (ChangeSpec.witness6 (enc:=enc) (C:=Try.checked) false ⟨#[],#[.slice none 0 0,.slice none 0 0,.string ByteArray.empty],[]⟩ 8 (by kernel_rfl) (by kernel_rfl) (by kernel_rfl) (by kernel_rfl)) ?_
  intro W base args ds gs before hval0 hW hcnd hsz0 _
  have hsz:(DataW.weightsEach Try.prog (Try.f3.params.toList ++ Rows.wordsJoinSpec.plain.varTypes Try.prog) (ds ++ gs)).all (· ≤ reachBytes) = true:=hsz0
  have hval:∀ (j:Nat) t v,Try.f3.params[j]? = some t → args[j]? = some v → Value.okWide Try.prog W .any base t v:=hval0
  have hW':=hW
  obtain ⟨p,q,hA0,hV,rfl,hfz,hnd⟩:=hW
  have hA:DataW.TrodAll enc Try.prog W 0 (fun _=>true) true Try.f3.params.toList args.toList ds p:=hA0
  rw [Try.params3] at hA hval hsz
  obtain ⟨v0,vs0,d0,ds0,p0,q0,hargs,rfl,rfl,h0,r0⟩:=trodAll_cons hA
  obtain ⟨v1,vs1,d1,ds1,p1,q1,rfl,rfl,rfl,h1,r1⟩:=trodAll_cons r0
  obtain ⟨v2,vs2,d2,ds2,p2,q2,rfl,rfl,rfl,h2,r2⟩:=trodAll_cons r1
  obtain ⟨rfl,rfl,rfl⟩:=trodAll_nil r2
  obtain rfl:args = #[v0,v1,v2]:=by cases args;simp_all
  obtain ⟨rfl,rfl⟩:=trodVars_none hV
  obtain ⟨A0,len0,cap0,rfl⟩:=okWide_slice Try.underlying22 (hval 0 22 v0 rfl rfl)
  have k0:=h0
  have lt0:∀ x ∈ p0,x.block < W.heap.size:=by obtain ⟨m,hm⟩:=k0;exact DataW.trod_lt m _ _ _ hm
  obtain ⟨l0,rfl,hc0,hm0,hr0⟩:∃ l:List ByteArray,len0 = l.length ∧ l.length ≤ cap0 ∧ l.length ≤ maxLen ∧ Kd.C Kd.string W A0 l.length l:=by
    obtain ⟨fuel,hf⟩:=h0
    exact open_strs_C Try.underlying22 Try.underlying9 (by kernel_rfl) hf
  obtain ⟨A1,len1,cap1,rfl⟩:=okWide_slice Try.underlying23 (hval 1 23 v1 rfl rfl)
  have k1:=h1
  have lt1:∀ x ∈ p1,x.block < W.heap.size:=by obtain ⟨m,hm⟩:=k1;exact DataW.trod_lt m _ _ _ hm
  have y1:len1 * 8 ≤ 140737488351232:=Go.Proofs.YtniohifoimhbkaaW.PrintWords.sized_ints hsz (j:=1) (t:=23) rfl rfl Try.underlying23 Try.underlying3 (by kernel_rfl) (by kernel_rfl) h1
  obtain ⟨l1,rfl,hr1,hm1,hw1,hc1⟩:∃ l:List Int,len1 = l.length ∧ ReadsInt W .i64 A1 l.length l ∧ l.length ≤ maxLen ∧ (∀ x ∈ l,(Lit.int .i64 x).wf = true) ∧ l.length ≤ cap1:=by
    obtain ⟨fuel,hf⟩:=h1
    rcases open_ints Try.underlying23 Try.underlying3 (by kernel_rfl) hf with ⟨hcs,_⟩|⟨x,l,c,zs,hcs,_,hl,hm,hz,_,hcell,hwz⟩
    · simp [Value.cells] at hcs
      obtain ⟨rfl,rfl,rfl⟩:=hcs
      exact ReadsInt.ofRowC (zs:=[]) (.inl ⟨rfl,rfl,rfl,rfl⟩)
    · simp [Value.cells] at hcs
      obtain ⟨rfl,rfl,rfl⟩:=hcs
      exact ReadsInt.ofRowC (.inr ⟨_,rfl,hl,hm,by simpa using hz,hcell,hwz⟩)
  obtain ⟨a2,rfl,rfl,rfl,y2⟩:=open_string Try.underlying9 (hval 2 9 v2 rfl rfl) h2
  have w2:a2.size ≤ 140737488351232:=by
    have z:=sized_string hsz (j:=2) (t:=9) rfl rfl
    rw [Array.length_toList] at z
    exact z
  clear hA0 hval0 hsz0 hsz
  obtain ⟨k,hf⟩:=Pure.WordsJoin l0 l1 a2 hm0 hm1 y1 hw1 w2
  refine (Q.q0.calls k _ _ l0 _ _ l1 a2 true W hr0 hc0 (Kd.C_of_reads (d:=(0:Int)) (h1:=fun _=>rfl) hr1) hc1 hf ⟨rfl⟩).mono ?_
  rintro e W' ⟨rfl,bel⟩
  exact ⟨_,rfl,_,_,_,[],_,[],hW',trodAll_mk1 (shut_bool Try.underlying4 _),(trodAll_cons_mk (Below.trod laidOut (by kernel_rfl) (of_decide_eq_true (by kernel_rfl)) k0 bel lt0) (trodAll_cons_mk (Below.trod laidOut (by kernel_rfl) (of_decide_eq_true (by kernel_rfl)) k1 bel lt1) (trodAll_cons_mk (shut_string Try.underlying9 y2) trodAll_mk0))),rfl,bel.frame _,fun h=>by cases h⟩
theorem over:Rows.wordsJoinRow.holds Try.pinned (OpenSpec.ofChange Rows.wordsJoinSpec) :=
 OpenClaim.holds_of_wide 3 Try.f3 rfl rfl rfl rfl rfl rfl rfl ⟨rfl,rfl,rfl,rfl,rfl⟩ rfl rfl rfl rfl rfl (by kernel_rfl) Try.func3 (by kernel_rfl)
  (of_decide_eq_true (by kernel_rfl)) (by unfold Func.isWrapper;first|(rw [if_pos (by decide +kernel)];kernel_rfl)|(rw [if_neg (by decide +kernel)];exact ⟨rfl,rfl⟩))
  (fun os started H enc _=>lifted os started H enc)
theorem proved:Rows.WordsJoinSaid:=over
#print axioms proved
end Go.Proofs.Ytniohifoimhbkaa.wordsJoin
namespace Go.Proofs.Ytniohifoimhbkaa
theorem wordsJoin_holds:Rows.WordsJoinSaid:=wordsJoin.proved
end Go.Proofs.Ytniohifoimhbkaa
