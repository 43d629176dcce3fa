/-
  Two words more for the printed proofs: a whole row appended to a row that may begin inside its block. Conditions: none beyond each lemma's own.
-/
import Derived.Test.YtnomeokicfpidaaWMore
import Derived.Test.YtnomeokicfpidaaWNEv
namespace Go.Proofs.YtnomeokicfpidaaW.PrintWords
open Go.RowKit
set_option linter.unusedVariables false
set_option linter.unusedSimpArgs false
theorem ownBlock_cut (A : Option Addr) (n m c c' j k : Nat) : (Value.slice (if c = j then A else A.map (·.add k)) n c').ownBlock = (Value.slice A m c).ownBlock := by
  split
  · cases A <;> rfl
  · cases A with
    | none => rfl
    | some a =>
      show some (a.add k).block = some a.block
      unfold Addr.add; split <;> rfl
namespace Kd
variable {P : Program} {ops : Array Oper} {rest : List Oper} {o : Oper} {a : Act} {Q' : Exit → Act → World → Prop} {α : Type}
theorem Q_append_rows (d : Kd α) {Rr : α → List Value → Prop} {w0 W : World} (base : Nat) (hgd : o.guard = none) (s x : Operand) (t e : TypeId) (z : Value) (bytes : Nat)
    (ho : o.op = .call { callee := .builtin .append, args := #[s, x], argTypes := #[t, t] })
    (ht : P.underlying t = some (.slice e)) (hinfo : (P.info? e).map (fun i => (i.zero, i.size, i.bytes)) = some (some z, d.sz, bytes)) (hz : z.cells.size = d.sz) (hs0 : 0 < d.sz) (hb0 : 0 < bytes)
    (v : Value) (xs ys : List α) (A : Option Addr) (m c : Nat) (ok okp : Nat → Prop) (hs : a.eval s = v) (hx : a.eval x = .slice A m c)
    (HO : d.Q e W base ok v xs) (HR : ReadsRow Rr d.sz W A m ys) (hKM : ∀ x cs, Rr x cs → d.M W base okp x cs) (hokp : ∀ k, okp k → ok k ∧ some k ≠ v.ownBlock) (hfresh : ∀ k, W.heap.size ≤ k → ok k)
    (HB : Below base w0 W) (hbase : base ≤ W.heap.size) (hl : (xs.length + m) * bytes ≤ 140737488355328)
    (h : ∀ v1 w1, d.Q e w1 base ok v1 (xs ++ ys) → Below base w0 w1 → W.grownBy w1 v.ownBlock → (v1.ownBlock = v.ownBlock ∨ ∃ b, v1.ownBlock = some b ∧ W.heap.size ≤ b) → wpList P ops Q' rest (a.put o.dst v1) w1) :
    wpList P ops Q' (o :: rest) a W := by
  obtain ⟨i0, hi, hzz⟩ := Option.map_eq_some_iff.1 hinfo
  simp only [Prod.mk.injEq] at hzz
  obtain ⟨hz0, hz1, hz2⟩ := hzz
  have hm : ys.length = m := HR.1
  have hlen : xs.length + m ≤ 140737488355328 := Nat.le_trans (Nat.le_mul_of_pos_right _ hb0) hl
  obtain ⟨hok, inner, hown, hr⟩ := HO
  have hrun : ∃ v1 w1, (Builtin.append_ #[t, t] o.type #[v, .slice A m c]).run P W = .ok v1 w1 ∧ d.Q e w1 base ok v1 (xs ++ ys) ∧ W.grownBy w1 v.ownBlock ∧ (v1.ownBlock = v.ownBlock ∨ ∃ b, v1.ownBlock = some b ∧ W.heap.size ≤ b) := by
    by_cases h0 : m = 0
    · subst h0
      obtain rfl : ys = [] := List.eq_nil_of_length_eq_zero hm
      refine ⟨v, W, ?_, by rw [List.append_nil]; exact ⟨hok, inner, hown, hr⟩, World.grownBy.refl W _, .inl rfl⟩
      rcases hown.2 with ⟨hn, A', rfl, _⟩ | ⟨g, off, cap, cur, rfl, _, _, hnc, _⟩
      · rcases A with _ | ad <;> rcases A' with _ | ad' <;> simp [Builtin.append_, run_underlying ht, sizeOf, typeInfo, hi, Builtin.lenOf, Builtin.firstCells, storeCells, loadCells, loadCellsFrom, hn]
      · rcases A with _ | ad <;> simp [Builtin.append_, run_underlying ht, sizeOf, typeInfo, hi, Builtin.lenOf, Builtin.firstCells, hnc, storeCells, loadCells, loadCellsFrom]
    · rcases A with _ | ad
      · obtain ⟨ad, h, _⟩ := HR.2.2 (Nat.pos_of_ne_zero h0)
        cases h
      · obtain ⟨news, hnr, hnc⟩ := ReadsRow.inner_ HR
        have hnM : Reps (d.M W base okp) d.sz ys news := hnr.imp_ (fun p c hp => hKM p c hp)
        have hone : ∀ u ∈ news, u.oneCell' = true := by
          intro u hu
          obtain ⟨q, hq, rfl⟩ := List.mem_iff_getElem.1 hu
          have hql : q / d.sz < ys.length := by
            rw [Nat.div_lt_iff_lt_mul hs0]
            rw [← hnM.1]
            exact hq
          have hc := hnM.2 (q / d.sz) _ (List.getElem?_eq_getElem hql)
          refine d.K_one (d.K_of_M hc) _ ?_
          rw [List.mem_iff_getElem?]
          refine ⟨q % d.sz, ?_⟩
          rw [List.getElem?_take, if_pos (Nat.mod_lt _ hs0), List.getElem?_drop, Nat.mul_comm, Nat.div_add_mod, List.getElem?_eq_getElem hq]
        obtain ⟨v1, w1, hrun, h2, hg, hat⟩ := q_append (P := P) W base t o.type e i0 z d.sz bytes ht hi hz0 hz1 hz2 hz hs0 v xs.length inner hown ad m c news (by rw [hnM.1, hm]) hnc hone (Nat.pos_of_ne_zero h0) (by simp only [maxLen]; omega) hl hbase
        have hne : ∀ k, some k ≠ v.ownBlock → k < W.heap.size → some k ≠ v1.ownBlock := by
          intro k hk hlt
          rcases hat with hat | ⟨b, hb, hle⟩
          · rw [hat]; exact hk
          · rw [hb]
            intro he
            injection he with he
            omega
        have step : ∀ {q : α} {c : List Value} {p : Nat → Prop}, d.M W base p q c → (∀ k, p k → ok k ∧ some k ≠ v.ownBlock) → d.M w1 base (fun k => ok k ∧ some k ≠ v1.ownBlock) q c := by
          intro q c p hq hp
          have h1 := d.M_move (w1 := w1) (fun k hk => hg.block k hk.2.2.1 (hp k hk.1).2) (d.M_bound hq)
          exact d.M_mono (fun k hk => ⟨(hp k hk.1).1, hne k (hp k hk.1).2 hk.2.2.1⟩) h1
        refine ⟨v1, w1, hrun, ⟨fun k hk => ?_, inner ++ news, by rw [List.length_append, hm]; exact h2, ?_⟩, hg, hat⟩
        · rcases hat with hat | ⟨b, hb, hle⟩
          · exact hok k (hat ▸ hk)
          · rw [hb] at hk
            injection hk with hk
            exact hfresh k (by omega)
        · exact reps_append (hr.imp_ (fun _ _ hq => step hq (fun _ hk => hk))) (hnM.imp_ (fun _ _ hq => step hq hokp))
  obtain ⟨v1, w1, hr1, h1, hg, hat⟩ := hrun
  have hbelow : Below base w0 w1 := HB.grown hg hbase (fun k hk => (q_typed hown k hk).1)
  refine wpList_plain hgd fun K hK => ?_
  unfold Oper.wp execOp
  simp only [ho, resolve, invoke, builtin, Sem.run_bind, Sem.run_pure, Result.andThen_ok, List.map_toArray, List.map_cons, List.map_nil, hs, hx, hr1]
  exact hK _ _ (h v1 w1 h1 hbelow hg hat)
end Kd
end Go.Proofs.YtnomeokicfpidaaW.PrintWords
