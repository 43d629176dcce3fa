/- The row of the law EnterProper. Conditions: none. -/
import Derived.Test.YtnomeokicfpidaaRows
import Derived.Test.YtnomeokicfpidaaKEnterProper9
import Derived.ProofKit
import Derived.OpenShut
import Derived.ShutString
import Derived.ChangeOld
import Derived.Test.YtnomeokicfpidaaWSized
namespace Go.Proofs.Ytnomeokicfpidaa.enterProper
open Go.ChangeShapes Go.WideShapes Go.ChangeAt Go.RowKit Go.Proofs.YtnomeokicfpidaaW.PrintWords
open Go.ChangeMaps (open_string shut_string)
set_option linter.unusedVariables false
theorem own:ownKnob Try.prog.godebug = none:=by kernel_rfl
theorem laidOut:laidOutB Try.prog = true:=by kernel_rfl
set_option maxRecDepth 100000 in
theorem lifted (os:Os) (started:os.Started) (H:Type) (enc:TypeId × Value → H) :
    ReturnsInHanded {} Try.checked os 12 .any (Rows.enterProperSpec.pre6 enc Try.prog Try.f12 Rows.enterProperRow.domain false) (Rows.enterProperSpec.post enc Try.prog Try.f12 false true false false):=by
  refine returnsInHanded_of_change_sized (C:=Try.checked) own started (by kernel_rfl) Try.func12
    (ChangeSpec.witness6 (enc:=enc) (C:=Try.checked) false ⟨#[],#[.slice none 0 0,.slice none 0 0,.int .i64 0,.int .i64 0,.slice none 0 0],[]⟩ 8 (by kernel_rfl) (by kernel_rfl) (by kernel_rfl) (by kernel_rfl)) ?_
  intro W base args ds gs before hval0 hW hcnd hsz0 _
  have hsz:(DataW.weightsEach Try.prog (Try.f12.params.toList ++ Rows.enterProperSpec.plain.varTypes Try.prog) (ds ++ gs)).all (· ≤ reachBytes) = true:=hsz0
  have hval:∀ (j:Nat) t v,Try.f12.params[j]? = some t → args[j]? = some v → Value.okWide Try.prog W .any base t v:=hval0
  have hW':=hW
  obtain ⟨p,q,hA0,hV,rfl,hfz,hnd⟩:=hW
  have hA:DataW.TrodAll enc Try.prog W 0 (fun _=>true) true Try.f12.params.toList args.toList ds p:=hA0
  rw [Try.params12] at hA hval hsz
  obtain ⟨v0,vs0,d0,ds0,p0,q0,hargs,rfl,rfl,h0,r0⟩:=trodAll_cons hA
  obtain ⟨v1,vs1,d1,ds1,p1,q1,rfl,rfl,rfl,h1,r1⟩:=trodAll_cons r0
  obtain ⟨v2,vs2,d2,ds2,p2,q2,rfl,rfl,rfl,h2,r2⟩:=trodAll_cons r1
  obtain ⟨v3,vs3,d3,ds3,p3,q3,rfl,rfl,rfl,h3,r3⟩:=trodAll_cons r2
  obtain ⟨v4,vs4,d4,ds4,p4,q4,rfl,rfl,rfl,h4,r4⟩:=trodAll_cons r3
  obtain ⟨rfl,rfl,rfl⟩:=trodAll_nil r4
  obtain rfl:args = #[v0,v1,v2,v3,v4]:=by cases args;simp_all
  obtain ⟨rfl,rfl⟩:=trodVars_none hV
  obtain ⟨A0,len0,cap0,rfl⟩:=okWide_slice Try.underlying22 (hval 0 22 v0 rfl rfl)
  have k0:=h0
  have lt0:∀ x ∈ p0,x.block < W.heap.size:=by obtain ⟨m,hm⟩:=k0;exact DataW.trod_lt m _ _ _ hm
  have y0:len0 * 8 ≤ 140737488351232:=Go.Proofs.YtnomeokicfpidaaW.PrintWords.sized_ints hsz (j:=0) (t:=22) rfl rfl Try.underlying22 Try.underlying3 (by kernel_rfl) (by kernel_rfl) h0
  obtain ⟨l0,rfl,hr0,hm0,hw0,hc0⟩:∃ l:List Int,len0 = l.length ∧ ReadsInt W .i64 A0 l.length l ∧ l.length ≤ maxLen ∧ (∀ x ∈ l,(Lit.int .i64 x).wf = true) ∧ l.length ≤ cap0:=by
    obtain ⟨fuel,hf⟩:=h0
    rcases open_ints Try.underlying22 Try.underlying3 (by kernel_rfl) hf with ⟨hcs,_⟩|⟨x,l,c,zs,hcs,_,hl,hm,hz,_,hcell,hwz⟩
    · simp [Value.cells] at hcs
      obtain ⟨rfl,rfl,rfl⟩:=hcs
      exact ReadsInt.ofRowC (zs:=[]) (.inl ⟨rfl,rfl,rfl,rfl⟩)
    · simp [Value.cells] at hcs
      obtain ⟨rfl,rfl,rfl⟩:=hcs
      exact ReadsInt.ofRowC (.inr ⟨_,rfl,hl,hm,by simpa using hz,hcell,hwz⟩)
  obtain ⟨A1,len1,cap1,rfl⟩:=okWide_slice Try.underlying22 (hval 1 22 v1 rfl rfl)
  have k1:=h1
  have lt1:∀ x ∈ p1,x.block < W.heap.size:=by obtain ⟨m,hm⟩:=k1;exact DataW.trod_lt m _ _ _ hm
  have y1:len1 * 8 ≤ 140737488351232:=Go.Proofs.YtnomeokicfpidaaW.PrintWords.sized_ints hsz (j:=1) (t:=22) rfl rfl Try.underlying22 Try.underlying3 (by kernel_rfl) (by kernel_rfl) h1
  obtain ⟨l1,rfl,hr1,hm1,hw1,hc1⟩:∃ l:List Int,len1 = l.length ∧ ReadsInt W .i64 A1 l.length l ∧ l.length ≤ maxLen ∧ (∀ x ∈ l,(Lit.int .i64 x).wf = true) ∧ l.length ≤ cap1:=by
    obtain ⟨fuel,hf⟩:=h1
    rcases open_ints Try.underlying22 Try.underlying3 (by kernel_rfl) hf with ⟨hcs,_⟩|⟨x,l,c,zs,hcs,_,hl,hm,hz,_,hcell,hwz⟩
    · simp [Value.cells] at hcs
      obtain ⟨rfl,rfl,rfl⟩:=hcs
      exact ReadsInt.ofRowC (zs:=[]) (.inl ⟨rfl,rfl,rfl,rfl⟩)
    · simp [Value.cells] at hcs
      obtain ⟨rfl,rfl,rfl⟩:=hcs
      exact ReadsInt.ofRowC (.inr ⟨_,rfl,hl,hm,by simpa using hz,hcell,hwz⟩)
  obtain ⟨a2,rfl,rfl,rfl,w2⟩:=open_int Try.underlying3 (hval 2 3 v2 rfl rfl) h2
  obtain ⟨a3,rfl,rfl,rfl,w3⟩:=open_int Try.underlying3 (hval 3 3 v3 rfl rfl) h3
  obtain ⟨A4,len4,cap4,rfl⟩:=okWide_slice Try.underlying41 (hval 4 41 v4 rfl rfl)
  have k4:=h4
  have lt4:∀ x ∈ p4,x.block < W.heap.size:=by obtain ⟨m,hm⟩:=k4;exact DataW.trod_lt m _ _ _ hm
  obtain ⟨l4,rfl,hc4,hm4,hr4,hw4⟩:∃ l:List (List Int),len4 = l.length ∧ l.length ≤ cap4 ∧ l.length ≤ maxLen ∧ Kd.C (Kd.slice 3 (Kd.int .i64)) W A4 l.length l ∧ (∀ z ∈ l,z.length ≤ maxLen ∧ ∀ n ∈ z,(Lit.int .i64 n).wf = true):=by
    obtain ⟨fuel,hf⟩:=h4
    exact open_rows_C Try.underlying41 Try.underlying22 Try.underlying3 (by kernel_rfl) (by kernel_rfl) hf
  clear hA0 hval0 hsz0 hsz
  obtain ⟨k,hf⟩:=Pure.EnterProper l0 l1 a2 a3 l4 hm0 y0 hw0 hm1 y1 hw1 w2 w3 hm4 hw4
  refine (Q.q2.calls k _ _ l0 _ _ l1 a2 a3 _ _ l4 true W (Kd.C_of_reads (d:=(0:Int)) (h1:=fun _=>rfl) hr0) hc0 (Kd.C_of_reads (d:=(0:Int)) (h1:=fun _=>rfl) hr1) hc1 hr4 hc4 hf ⟨rfl⟩).mono ?_
  rintro e W' ⟨rfl,bel⟩
  exact ⟨_,rfl,_,_,_,[],_,[],hW',trodAll_mk1 (shut_bool Try.underlying4 _),(trodAll_cons_mk (Below.trod laidOut (by kernel_rfl) (of_decide_eq_true (by kernel_rfl)) k0 bel lt0) (trodAll_cons_mk (Below.trod laidOut (by kernel_rfl) (of_decide_eq_true (by kernel_rfl)) k1 bel lt1) (trodAll_cons_mk (shut_int Try.underlying3 w2) (trodAll_cons_mk (shut_int Try.underlying3 w3) (trodAll_cons_mk (Below.trod laidOut (by kernel_rfl) (of_decide_eq_true (by kernel_rfl)) k4 bel lt4) trodAll_mk0))))),rfl,bel.frame _,fun h=>by cases h⟩
theorem over:Rows.enterProperRow.holds Try.pinned (OpenSpec.ofChange Rows.enterProperSpec) :=
 OpenClaim.holds_of_wide 12 Try.f12 rfl rfl rfl rfl rfl rfl rfl ⟨rfl,rfl,rfl,rfl,rfl⟩ rfl rfl rfl rfl rfl (by kernel_rfl) Try.func12 (by kernel_rfl)
  (of_decide_eq_true (by kernel_rfl)) (by unfold Func.isWrapper;first|(rw [if_pos (by decide +kernel)];kernel_rfl)|(rw [if_neg (by decide +kernel)];exact ⟨rfl,rfl⟩))
  (fun os started H enc _=>lifted os started H enc)
theorem proved:Rows.EnterProperSaid:=over
#print axioms proved
end Go.Proofs.Ytnomeokicfpidaa.enterProper
namespace Go.Proofs.Ytnomeokicfpidaa
theorem enterProper_holds:Rows.EnterProperSaid:=enterProper.proved
end Go.Proofs.Ytnomeokicfpidaa
