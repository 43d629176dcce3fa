/-
  A line's words: what the printed Cut and Split answer. Conditions: a line of at most 1000000 bytes.
-/
import Derived.Test.YtniohifoimhbkaaMth
import Derived.Lib.IndexLaws
import Derived.Test.YtniohifoimhbkaaQx0
import Derived.Test.YtniohifoimhbkaaQx10
import Derived.Test.YtniohifoimhbkaaQx11
import Derived.Test.YtniohifoimhbkaaQx12
import Derived.Test.YtniohifoimhbkaaQx13
namespace Go.Proofs.Ytniohifoimhbkaa.M
open Go.RowKit Go.Proofs.YtniohifoimhbkaaW.PrintWords Go.Proofs.YtniohifoimhbkaaW.PrintLast Go.Proofs.YtniohifoimhbkaaW.PrintMore Go.Proofs.Ytniohifoimhbkaa.Q
set_option linter.unusedVariables false
set_option linter.unusedSectionVars false

theorem bt_nat (s : ByteArray) (k : Nat) (h : k < s.size) : bt s (k : Int) = ((s[k]'h).toNat : Int) := by
  unfold bt
  rw [dif_pos (by rw [Int.toNat_natCast]; exact h)]
  simp only [Int.toNat_natCast]
theorem bt_ext (s : ByteArray) (a b k : Nat) (h : k < (s.extract a b).size) : bt (s.extract a b) (k : Int) = bt s ((a + k : Nat) : Int) := by
  have h' := h
  rw [ByteArray.size_extract] at h'
  rw [bt_nat _ _ h, bt_nat _ _ (by omega), ByteArray.getElem_extract]
theorem bt_list (s : ByteArray) (k : Nat) (h : k < s.size) (c : UInt8) : s.data.toList[k]? = some c ↔ bt s (k : Int) = (c.toNat : Int) := by
  rw [bt_nat s k h]
  have e : s.data.toList[k]? = some (s[k]'h) := by
    rw [List.getElem?_eq_getElem (by rw [Array.length_toList]; exact h)]
    rfl
  rw [e]
  constructor
  · intro h; rw [Option.some.inj h]
  · intro h
    congr 1
    exact UInt8.toNat_inj.1 (by omega)

/-- A text's first part, till a byte. -/
def CutAt (s : ByteArray) (c : Int) (m : Nat) : Prop := m ≤ s.size ∧ (∀ k : Nat, k < m → bt s (k : Int) ≠ c) ∧ (m = s.size ∨ bt s (m : Int) = c)

theorem index_one (s : ByteArray) (c : UInt8) : stringslite_Index.f s ⟨#[c]⟩ = some (Lib.indexByte s.data.toList c) := rfl

theorem cut_one (s : ByteArray) (c : UInt8) (hs : s.size < 4611686018427387904) : ∃ (m : Nat) (x : ByteArray) (b : Bool), strings_Cut.f s ⟨#[c]⟩ = some (s.extract 0 m, x, b) ∧ CutAt s c.toNat m := by
  unfold strings_Cut.f stringslite_Cut.f
  rw [index_one]
  have hge := Lib.indexByte_ge s.data.toList c
  by_cases h : Lib.indexByte s.data.toList c = -1
  · refine ⟨s.size, ⟨#[]⟩, false, ?_, Nat.le_refl _, fun k hk e => ?_, .inl rfl⟩
    · rw [h]
      simp only [Option.bind_some]
      rw [if_neg (by omega), Option.bind_some]
      congr 1
      rw [show s.extract 0 s.size = s by simp]
    · exact Lib.indexByte_none h k ((bt_list s k hk c).2 e)
  · obtain ⟨o, ho⟩ : ∃ o : Nat, Lib.indexByte s.data.toList c = o := ⟨(Lib.indexByte s.data.toList c).toNat, by omega⟩
    obtain ⟨h1, h2⟩ := Lib.indexByte_some ho
    have hlt : o < s.size := by
      rcases Nat.lt_or_ge o s.size with h | h
      · exact h
      · rw [List.getElem?_eq_none (by rw [Array.length_toList]; exact h)] at h1; cases h1
    have hw : wrap64 ((o : Int) + (((⟨#[c]⟩ : ByteArray)).size : Int)) = ((o + 1 : Nat) : Int) := by
      show wrap64 ((o : Int) + 1) = _
      exact w1 o (by omega)
    refine ⟨o, s.extract ((o + 1 : Nat) : Int).toNat s.size, true, ?_, by omega, fun k hk e => h2 k hk ((bt_list s k (by omega) c).2 e), .inr ((bt_list s o hlt c).1 h1)⟩
    rw [ho]
    simp only [Option.bind_some]
    rw [if_pos (by omega), if_pos (by omega), if_pos (by omega), hw, if_pos (by omega), if_pos (by omega), Option.bind_some, Int.toNat_natCast]

/-- Where the last word of some ends. -/
def eW (ws : List S28) (i : Nat) : Nat := if i = 0 then 0 else (ws.getD (i - 1) z28).f1.toNat - 1 + (ws.getD (i - 1) z28).f0.size
/-- One word, behind at. -/
def OkW (s : ByteArray) (at_ i : Nat) (w : S28) : Prop := ∃ c len : Nat, w.f1 = ((c + 1 : Nat) : Int) ∧ w.f0.size = len ∧ at_ ≤ c ∧ (i ≠ 0 → at_ < c) ∧ 0 < len ∧ c + len ≤ s.size ∧ w.f0 = s.extract c (c + len) ∧
  (∀ k : Nat, at_ ≤ k → k < c → bt s (k : Int) = 32) ∧ (∀ k : Nat, k < len → bt w.f0 (k : Int) ≠ 32 ∧ bt w.f0 (k : Int) ≠ 35)
def Good (s : ByteArray) (ws : List S28) : Prop := ∀ i, i < ws.length → OkW s (eW ws i) i (ws.getD i z28)

theorem eW_app {ws : List S28} {w : S28} {i : Nat} (h : i ≤ ws.length) : eW (ws ++ [w]) i = eW ws i := by
  unfold eW
  by_cases e : i = 0
  · rw [if_pos e, if_pos e]
  · rw [if_neg e, if_neg e, List.getD_eq_getElem?_getD, List.getElem?_append_left (by omega), ← List.getD_eq_getElem?_getD]
theorem eW_last {ws : List S28} {w : S28} : eW (ws ++ [w]) (ws.length + 1) = w.f1.toNat - 1 + w.f0.size := by
  unfold eW
  rw [if_neg (by omega), Nat.add_sub_cancel, List.getD_eq_getElem?_getD, List.getElem?_append_right (Nat.le_refl _)]
  simp
theorem Good.app {s : ByteArray} {ws : List S28} {w : S28} (h : Good s ws) (hw : OkW s (eW ws ws.length) ws.length w) : Good s (ws ++ [w]) := by
  intro i hi
  rw [List.length_append] at hi
  simp only [List.length_singleton] at hi
  rw [eW_app (by omega)]
  by_cases e : i < ws.length
  · rw [List.getD_eq_getElem?_getD, List.getElem?_append_left e, ← List.getD_eq_getElem?_getD]
    exact h i e
  · obtain rfl : i = ws.length := by omega
    rw [List.getD_eq_getElem?_getD, List.getElem?_append_right (Nat.le_refl _)]
    simpa using hw

/-- What Split hands back. -/
def SplitOf (s : ByteArray) (r : List S28 × Int) : Prop :=
  (∃ b : Nat, r = ([], ((b + 1 : Nat) : Int)) ∧ b < s.size ∧ (bt s (b : Int) < 32 ∨ bt s (b : Int) > 126)) ∨
  (r.2 = 0 ∧ Good s r.1 ∧ r.1.length ≤ s.size ∧ ∃ m : Nat, CutAt s 35 m ∧ eW r.1 r.1.length ≤ m ∧ ∀ k : Nat, eW r.1 r.1.length ≤ k → k < m → bt s (k : Int) = 32)

def ExW (g : Nat → Option (List S28 × Int)) (s : ByteArray) : Prop := ∃ r, Ev g r ∧ SplitOf s r
theorem ExW.st {g f : Nat → Option (List S28 × Int)} {s : ByteArray} (h : ExW f s) (e : ∀ k, g (k + 1) = f k) : ExW g s := by
  obtain ⟨r, a, b⟩ := h
  exact ⟨r, Ev.st a e, b⟩

section
variable {s : ByteArray} {m : Nat} (hs : s.size ≤ 1000000) (hm : CutAt s 35 m)
include hs hm

theorem line_bt {k : Nat} (hk : k < m) : bt (s.extract 0 m) (k : Int) = bt s (k : Int) := by
  have := hm.1
  rw [bt_ext _ _ _ _ (by rw [ByteArray.size_extract]; omega), Nat.zero_add]
theorem line_size : (s.extract 0 m).size = m := by
  have := hm.1
  rw [ByteArray.size_extract]; omega

theorem split_l1 : ∀ (d x : Nat) (ws : List S28), m - x ≤ d → x ≤ m → Good s ws → ws.length ≤ x → eW ws ws.length ≤ x → (∀ k : Nat, eW ws ws.length ≤ k → k < x → bt s (k : Int) = 32) →
    (ws ≠ [] → eW ws ws.length = x → x = m ∨ bt s (x : Int) = 32) → ExW (fun k => words_Split.l1 k (s.extract 0 m) ws (x : Int)) s := by
  have hz := line_size hs hm
  have hmm := hm.1
  intro d
  induction d with
  | zero =>
    intro x ws hd hx hG hl he hb hn
    refine ⟨(ws, 0), Ev.ret (fun k => ?_), .inr ⟨rfl, hG, by simp only; omega, m, hm, by simp only; omega, fun k a b => hb k a (by omega)⟩⟩
    simp only [words_Split.l1]
    rw [if_neg (by omega)]
  | succ d ih =>
    intro x ws hd hx hG hl he hb hn
    by_cases hxm : x < m
    · have hbx := line_bt hs hm hxm
      by_cases h32 : bt s (x : Int) = 32
      · refine ExW.st (ih (x + 1) ws (by omega) (by omega) hG (by omega) (by omega) (fun k a b => ?_) (fun _ e => by omega)) (fun k => ?_)
        · by_cases e : k = x
          · rw [e]; exact h32
          · exact hb k a (by omega)
        · simp only [words_Split.l1]
          rw [if_pos (by omega), if_pos (by omega), hbx, if_pos h32, w1 x (by omega)]
      · obtain ⟨n, y, b, hc, h1, h2, h3⟩ := cut_one ((s.extract 0 m).extract x m) 32 (by rw [ByteArray.size_extract, hz]; omega)
        have hz2 : ((s.extract 0 m).extract x m).size = m - x := by rw [ByteArray.size_extract, hz]; omega
        have hb2 : ∀ k : Nat, k < m - x → bt ((s.extract 0 m).extract x m) (k : Int) = bt s ((x + k : Nat) : Int) := by
          intro k hk
          rw [bt_ext _ _ _ _ (by omega), line_bt hs hm (by omega)]
        rw [hz2] at h1 h3
        have hn0 : 0 < n := by
          rcases Nat.eq_zero_or_pos n with e | e
          · rcases h3 with h3 | h3
            · omega
            · rw [e, hb2 0 (by omega)] at h3
              exact absurd h3 h32
          · exact e
        have ht : ((s.extract 0 m).extract x m).extract 0 n = s.extract x (x + n) := by
          rw [ByteArray.extract_extract, ByteArray.extract_extract]
          congr 1 <;> omega
        have htz : (s.extract x (x + n)).size = n := by rw [ByteArray.size_extract]; omega
        have hOk : OkW s (eW ws ws.length) ws.length ⟨s.extract x (x + n), ((x + 1 : Nat) : Int)⟩ := by
          refine ⟨x, n, rfl, htz, he, fun hne => ?_, hn0, by omega, rfl, fun k a b => hb k a b, fun k hk => ?_⟩
          · rcases Nat.lt_or_ge (eW ws ws.length) x with h | h
            · exact h
            · rcases hn (fun e => hne (by rw [e]; rfl)) (by omega) with h | h
              · omega
              · exact absurd h h32
          · simp only
            rw [bt_ext _ _ _ _ (by omega)]
            have := h2 k hk
            rw [hb2 k (by omega)] at this
            exact ⟨this, hm.2.1 (x + k) (by omega)⟩
        have hel : eW (ws ++ [⟨s.extract x (x + n), ((x + 1 : Nat) : Int)⟩]) (ws.length + 1) = x + n := by
          rw [eW_last]
          simp only
          rw [htz]; omega
        refine ExW.st (ih (x + n) (ws ++ [⟨s.extract x (x + n), ((x + 1 : Nat) : Int)⟩]) (by omega) (by omega) (hG.app hOk) (by simp; omega) (by rw [List.length_append, List.length_singleton, hel]; exact Nat.le_refl _) (fun k a b => ?_) (fun _ _ => ?_)) (fun k => ?_)
        · rw [List.length_append, List.length_singleton, hel] at a; omega
        · rcases h3 with h3 | h3
          · left; omega
          · by_cases e : x + n = m
            · exact .inl e
            · right
              rw [hb2 n (by omega)] at h3
              exact h3
        · simp only [words_Split.l1]
          rw [if_pos (by omega), if_pos (by omega), hbx, if_neg h32, if_pos (by omega), Int.toNat_natCast, hz]
          rw [show ((32 : UInt8)) = 32 from rfl] at hc
          rw [hc, Option.bind_some, if_pos (by omega), ht]
          simp only
          rw [htz, w1 x (by omega), w64 (by omega) (by omega)]
          congr 1
    · refine ⟨(ws, 0), Ev.ret (fun k => ?_), .inr ⟨rfl, hG, by simp only; omega, m, hm, by simp only; omega, fun k a b => hb k a (by omega)⟩⟩
      simp only [words_Split.l1]
      rw [if_neg (by omega)]

theorem split_l0 : ∀ (d x : Nat), x + d = m → ExW (fun k => words_Split.l0 k (s.extract 0 m) [] (x : Int)) s := by
  have hz := line_size hs hm
  have hmm := hm.1
  intro d
  induction d with
  | zero =>
    intro x hx
    refine ExW.st (split_l1 hs hm m 0 [] (by omega) (by omega) (fun i hi => absurd hi (Nat.not_lt_zero _)) (by simp) (by simp [eW]) (fun k a b => by omega) (fun h => absurd rfl h)) (fun k => ?_)
    simp only [words_Split.l0]
    rw [if_neg (by omega)]; rfl
  | succ d ih =>
    intro x hx
    have hbx := line_bt hs hm (show x < m by omega)
    by_cases h1 : bt s (x : Int) < 32
    · refine ⟨([], ((x + 1 : Nat) : Int)), Ev.ret (fun k => ?_), .inl ⟨x, rfl, by omega, .inl h1⟩⟩
      simp only [words_Split.l0]
      rw [if_pos (by omega), if_pos (by omega), hbx, if_pos h1, w1 x (by omega)]
    · by_cases h2 : bt s (x : Int) > 126
      · refine ⟨([], ((x + 1 : Nat) : Int)), Ev.ret (fun k => ?_), .inl ⟨x, rfl, by omega, .inr h2⟩⟩
        simp only [words_Split.l0]
        rw [if_pos (by omega), if_pos (by omega), hbx, if_neg h1, if_pos h2, w1 x (by omega)]
      · refine ExW.st (ih (x + 1) (by omega)) (fun k => ?_)
        simp only [words_Split.l0]
        rw [if_pos (by omega), if_pos (by omega), hbx, if_neg h1, if_neg h2, w1 x (by omega)]
end

theorem split_f (s : ByteArray) (hs : s.size ≤ 1000000) : ExW (fun k => words_Split.f k s) s := by
  unfold words_Split.f
  obtain ⟨m, x, b, hc, hm⟩ := cut_one s 35 (by omega)
  simp only [hc, Option.bind_some]
  exact split_l0 hs hm m 0 (by omega)
end Go.Proofs.Ytniohifoimhbkaa.M
