/-
  No cell of these rows narrows 'for every input' (looked for: loops, veiled, ifaces, maps, wideKeys, modest, calm, conditions, laid).
  DERIVED. THE GIVEN ROWS OF THIS SEAT. 10 by the template 'for every input the law returns true; each argument reads behind the call as it read before'; 0 by the template 'total and deterministic' (their statements: YtnomeokicfpidaaTotals.lean).
  GIVEN WITH THE SEED: the statements are not yours to turn. If you find one false, say at which input.
  Laid BY PROGRAM, IN A SANDBOX (cutbox-rows.mjs): the forced cells as the released guide's own fill.sh prints them over the translation 02dbfe8edbef2507… (all of the seat's roots in one cut). By AI agents, Wed Nov 11 2026. No macro, syntax, notation, axiom, sorry.
-/
import Derived.Test.YtnomeokicfpidaaChecked
import GoSem.Claim
import GoSem.ClaimJoined
import GoSem.ClaimMapViews
import Derived.JoinedTies
import Derived.KernelRfl
namespace Go.Proofs.Ytnomeokicfpidaa
/- THE CELL 'sum', in the pinned program and in every row, IS THE sha256 OF THE DUMP (.gsa) THAT YtnomeokicfpidaaProg.lean LOADS. Nothing in Lean hashes anything: it is a label: what it is worth is what the hold of that sum in a sandbox is worth. -/
noncomputable def Try.pinned : Pinned := { name := "ytnomeokicfpidaa", sum := "02dbfe8edbef2507763e86c825e275441ca14caee9a1fa440a10acec4dd68fb0", checked := Try.checked }
namespace Rows
def none {H : Type} : Left H := { results := [], args := [] }

/-- 'imprimaturlaw06.ShapeCounts': WHATEVER THE INPUT: true; the input reads as it did. -/
def shapeCountsSpec : ChangeSpec := { name := "shapeCounts", fn := fun _ => fun
  | [d] => { results := [.lit (.bool true)], args := [d] }
  | _ => none }
def shapeCountsRow : OpenClaim := { program := "ytnomeokicfpidaa", sum := "02dbfe8edbef2507763e86c825e275441ca14caee9a1fa440a10acec4dd68fb0", func := "imprimatur/imprimaturlaw06.ShapeCounts", spec := "shapeCounts", recurses := true, apart := false }
def ShapeCountsSaid : Prop := shapeCountsRow.holds Try.pinned (OpenSpec.ofChange shapeCountsSpec)

/-- ITS FALSE NEIGHBOUR: 'it returns false'. Refute it at one input. -/
def shapeCountsWrong : ChangeSpec := { name := "shapeCounts", fn := fun _ => fun
  | [d] => { results := [.lit (.bool false)], args := [d] }
  | _ => none }
def ShapeCountsWrongFalsely : Prop := shapeCountsRow.holds Try.pinned (OpenSpec.ofChange shapeCountsWrong)

/-- 'imprimaturlaw06.ShapeConfigs': WHATEVER THE INPUT: true; the input reads as it did. -/
def shapeConfigsSpec : ChangeSpec := { name := "shapeConfigs", fn := fun _ => fun
  | [d1, d2, d3] => { results := [.lit (.bool true)], args := [d1, d2, d3] }
  | _ => none }
def shapeConfigsRow : OpenClaim := { program := "ytnomeokicfpidaa", sum := "02dbfe8edbef2507763e86c825e275441ca14caee9a1fa440a10acec4dd68fb0", func := "imprimatur/imprimaturlaw06.ShapeConfigs", spec := "shapeConfigs", apart := false }
def ShapeConfigsSaid : Prop := shapeConfigsRow.holds Try.pinned (OpenSpec.ofChange shapeConfigsSpec)

/-- ITS FALSE NEIGHBOUR: 'it returns false'. Refute it at one input. -/
def shapeConfigsWrong : ChangeSpec := { name := "shapeConfigs", fn := fun _ => fun
  | [d1, d2, d3] => { results := [.lit (.bool false)], args := [d1, d2, d3] }
  | _ => none }
def ShapeConfigsWrongFalsely : Prop := shapeConfigsRow.holds Try.pinned (OpenSpec.ofChange shapeConfigsWrong)

/-- 'imprimaturlaw06.ShapeForms': WHATEVER THE INPUT: true; the input reads as it did. -/
def shapeFormsSpec : ChangeSpec := { name := "shapeForms", fn := fun _ => fun
  | [d] => { results := [.lit (.bool true)], args := [d] }
  | _ => none }
def shapeFormsRow : OpenClaim := { program := "ytnomeokicfpidaa", sum := "02dbfe8edbef2507763e86c825e275441ca14caee9a1fa440a10acec4dd68fb0", func := "imprimatur/imprimaturlaw06.ShapeForms", spec := "shapeForms", apart := false }
def ShapeFormsSaid : Prop := shapeFormsRow.holds Try.pinned (OpenSpec.ofChange shapeFormsSpec)

/-- ITS FALSE NEIGHBOUR: 'it returns false'. Refute it at one input. -/
def shapeFormsWrong : ChangeSpec := { name := "shapeForms", fn := fun _ => fun
  | [d] => { results := [.lit (.bool false)], args := [d] }
  | _ => none }
def ShapeFormsWrongFalsely : Prop := shapeFormsRow.holds Try.pinned (OpenSpec.ofChange shapeFormsWrong)

/-- 'imprimaturlaw06.ShapeRaw': WHATEVER THE INPUT: true; the input reads as it did. -/
def shapeRawSpec : ChangeSpec := { name := "shapeRaw", fn := fun _ => fun
  | [d1, d2, d3] => { results := [.lit (.bool true)], args := [d1, d2, d3] }
  | _ => none }
def shapeRawRow : OpenClaim := { program := "ytnomeokicfpidaa", sum := "02dbfe8edbef2507763e86c825e275441ca14caee9a1fa440a10acec4dd68fb0", func := "imprimatur/imprimaturlaw06.ShapeRaw", spec := "shapeRaw", apart := false }
def ShapeRawSaid : Prop := shapeRawRow.holds Try.pinned (OpenSpec.ofChange shapeRawSpec)

/-- ITS FALSE NEIGHBOUR: 'it returns false'. Refute it at one input. -/
def shapeRawWrong : ChangeSpec := { name := "shapeRaw", fn := fun _ => fun
  | [d1, d2, d3] => { results := [.lit (.bool false)], args := [d1, d2, d3] }
  | _ => none }
def ShapeRawWrongFalsely : Prop := shapeRawRow.holds Try.pinned (OpenSpec.ofChange shapeRawWrong)

/-- 'imprimaturlaw07.EnterMemory': WHATEVER THE INPUT: true; the input reads as it did. -/
def enterMemorySpec : ChangeSpec := { name := "enterMemory", fn := fun _ => fun
  | [d1, d2, d3, d4] => { results := [.lit (.bool true)], args := [d1, d2, d3, d4] }
  | _ => none }
def enterMemoryRow : OpenClaim := { program := "ytnomeokicfpidaa", sum := "02dbfe8edbef2507763e86c825e275441ca14caee9a1fa440a10acec4dd68fb0", func := "imprimatur/imprimaturlaw07.EnterMemory", spec := "enterMemory", recurses := true, apart := false }
def EnterMemorySaid : Prop := enterMemoryRow.holds Try.pinned (OpenSpec.ofChange enterMemorySpec)

/-- ITS FALSE NEIGHBOUR: 'it returns false'. Refute it at one input. -/
def enterMemoryWrong : ChangeSpec := { name := "enterMemory", fn := fun _ => fun
  | [d1, d2, d3, d4] => { results := [.lit (.bool false)], args := [d1, d2, d3, d4] }
  | _ => none }
def EnterMemoryWrongFalsely : Prop := enterMemoryRow.holds Try.pinned (OpenSpec.ofChange enterMemoryWrong)

/-- 'imprimaturlaw07.EnterStart': WHATEVER THE INPUT: true; the input reads as it did. -/
def enterStartSpec : ChangeSpec := { name := "enterStart", fn := fun _ => fun
  | [d] => { results := [.lit (.bool true)], args := [d] }
  | _ => none }
def enterStartRow : OpenClaim := { program := "ytnomeokicfpidaa", sum := "02dbfe8edbef2507763e86c825e275441ca14caee9a1fa440a10acec4dd68fb0", func := "imprimatur/imprimaturlaw07.EnterStart", spec := "enterStart", recurses := true, apart := false }
def EnterStartSaid : Prop := enterStartRow.holds Try.pinned (OpenSpec.ofChange enterStartSpec)

/-- ITS FALSE NEIGHBOUR: 'it returns false'. Refute it at one input. -/
def enterStartWrong : ChangeSpec := { name := "enterStart", fn := fun _ => fun
  | [d] => { results := [.lit (.bool false)], args := [d] }
  | _ => none }
def EnterStartWrongFalsely : Prop := enterStartRow.holds Try.pinned (OpenSpec.ofChange enterStartWrong)

/-- 'imprimaturlaw07.EnterSelf': WHATEVER THE INPUT: true; the input reads as it did. -/
def enterSelfSpec : ChangeSpec := { name := "enterSelf", fn := fun _ => fun
  | [d1, d2, d3, d4, d5] => { results := [.lit (.bool true)], args := [d1, d2, d3, d4, d5] }
  | _ => none }
def enterSelfRow : OpenClaim := { program := "ytnomeokicfpidaa", sum := "02dbfe8edbef2507763e86c825e275441ca14caee9a1fa440a10acec4dd68fb0", func := "imprimatur/imprimaturlaw07.EnterSelf", spec := "enterSelf", recurses := true, apart := false }
def EnterSelfSaid : Prop := enterSelfRow.holds Try.pinned (OpenSpec.ofChange enterSelfSpec)

/-- ITS FALSE NEIGHBOUR: 'it returns false'. Refute it at one input. -/
def enterSelfWrong : ChangeSpec := { name := "enterSelf", fn := fun _ => fun
  | [d1, d2, d3, d4, d5] => { results := [.lit (.bool false)], args := [d1, d2, d3, d4, d5] }
  | _ => none }
def EnterSelfWrongFalsely : Prop := enterSelfRow.holds Try.pinned (OpenSpec.ofChange enterSelfWrong)

/-- 'imprimaturlaw07.EnterTells': WHATEVER THE INPUT: true; the input reads as it did. -/
def enterTellsSpec : ChangeSpec := { name := "enterTells", fn := fun _ => fun
  | [d1, d2, d3, d4, d5] => { results := [.lit (.bool true)], args := [d1, d2, d3, d4, d5] }
  | _ => none }
def enterTellsRow : OpenClaim := { program := "ytnomeokicfpidaa", sum := "02dbfe8edbef2507763e86c825e275441ca14caee9a1fa440a10acec4dd68fb0", func := "imprimatur/imprimaturlaw07.EnterTells", spec := "enterTells", recurses := true, apart := false }
def EnterTellsSaid : Prop := enterTellsRow.holds Try.pinned (OpenSpec.ofChange enterTellsSpec)

/-- ITS FALSE NEIGHBOUR: 'it returns false'. Refute it at one input. -/
def enterTellsWrong : ChangeSpec := { name := "enterTells", fn := fun _ => fun
  | [d1, d2, d3, d4, d5] => { results := [.lit (.bool false)], args := [d1, d2, d3, d4, d5] }
  | _ => none }
def EnterTellsWrongFalsely : Prop := enterTellsRow.holds Try.pinned (OpenSpec.ofChange enterTellsWrong)

/-- 'imprimaturlaw07.EnterBack': WHATEVER THE INPUT: true; the input reads as it did. -/
def enterBackSpec : ChangeSpec := { name := "enterBack", fn := fun _ => fun
  | [d1, d2, d3, d4] => { results := [.lit (.bool true)], args := [d1, d2, d3, d4] }
  | _ => none }
def enterBackRow : OpenClaim := { program := "ytnomeokicfpidaa", sum := "02dbfe8edbef2507763e86c825e275441ca14caee9a1fa440a10acec4dd68fb0", func := "imprimatur/imprimaturlaw07.EnterBack", spec := "enterBack", recurses := true, apart := false }
def EnterBackSaid : Prop := enterBackRow.holds Try.pinned (OpenSpec.ofChange enterBackSpec)

/-- ITS FALSE NEIGHBOUR: 'it returns false'. Refute it at one input. -/
def enterBackWrong : ChangeSpec := { name := "enterBack", fn := fun _ => fun
  | [d1, d2, d3, d4] => { results := [.lit (.bool false)], args := [d1, d2, d3, d4] }
  | _ => none }
def EnterBackWrongFalsely : Prop := enterBackRow.holds Try.pinned (OpenSpec.ofChange enterBackWrong)

/-- 'imprimaturlaw07.EnterProper': WHATEVER THE INPUT: true; the input reads as it did. -/
def enterProperSpec : ChangeSpec := { name := "enterProper", fn := fun _ => fun
  | [d1, d2, d3, d4, d5] => { results := [.lit (.bool true)], args := [d1, d2, d3, d4, d5] }
  | _ => none }
def enterProperRow : OpenClaim := { program := "ytnomeokicfpidaa", sum := "02dbfe8edbef2507763e86c825e275441ca14caee9a1fa440a10acec4dd68fb0", func := "imprimatur/imprimaturlaw07.EnterProper", spec := "enterProper", recurses := true, apart := false }
def EnterProperSaid : Prop := enterProperRow.holds Try.pinned (OpenSpec.ofChange enterProperSpec)

/-- ITS FALSE NEIGHBOUR: 'it returns false'. Refute it at one input. -/
def enterProperWrong : ChangeSpec := { name := "enterProper", fn := fun _ => fun
  | [d1, d2, d3, d4, d5] => { results := [.lit (.bool false)], args := [d1, d2, d3, d4, d5] }
  | _ => none }
def EnterProperWrongFalsely : Prop := enterProperRow.holds Try.pinned (OpenSpec.ofChange enterProperWrong)

/- THE SECOND FORM. 'bulk': how many values and letters a reading holds, each counted each time it is reached (what is shared counts as often as it is met; a slice's spare places count too). A statement '..UptoSaid' is the law's where the arguments, and the package variables that the reading takes, are together of bulk at most 1048576: NARROWER than '..Said'. Prove '..Said' where nothing that the law and all that it calls make is longer than what came in: it says more and counts as full. Else prove '..UptoSaid'. A law counts once. -/
mutual
def uptoBulk {H : Type} : DataW H → Nat
  | .lit (.string bytes) => bytes.length + 1
  | .lit _ => 1
  | .nil => 1
  | .ptr d => uptoBulk d + 1
  | .slice elems spare => uptoBulkAll elems + uptoBulkAll spare + 1
  | .agg parts => uptoBulkAll parts + 1
  | .iface _ d => uptoBulk d + 1
  | .map entries => uptoBulkEntries entries + 1
  | .held _ => 1
def uptoBulkAll {H : Type} : List (DataW H) → Nat
  | [] => 0
  | d :: r => uptoBulk d + uptoBulkAll r
def uptoBulkEntries {H : Type} : List (Lit × DataW H) → Nat
  | [] => 0
  | x :: r => uptoBulkEntry x + uptoBulkEntries r
def uptoBulkEntry {H : Type} : Lit × DataW H → Nat
  | (.string bytes, d) => bytes.length + uptoBulk d + 1
  | (_, d) => uptoBulk d + 1
 end
def uptoSmall : (H : Type) → List (DataW H) → Bool := fun _ ds => decide (uptoBulkAll ds ≤ 1048576)
def OpenSpec.upto (s : _root_.Go.ChangeSpec) : _root_.Go.OpenSpec := { _root_.Go.OpenSpec.ofChange s with cond := some uptoSmall }

/-- 'imprimaturlaw06.ShapeCounts', WHERE WHAT IT READS IS OF BULK AT MOST 1048576: true; the input reads as it did. -/
def shapeCountsUptoRow : OpenClaim := { program := "ytnomeokicfpidaa", sum := "02dbfe8edbef2507763e86c825e275441ca14caee9a1fa440a10acec4dd68fb0", func := "imprimatur/imprimaturlaw06.ShapeCounts", spec := "shapeCounts", recurses := true, apart := false, narrowed := true }
def ShapeCountsUptoSaid : Prop := shapeCountsUptoRow.holds Try.pinned (OpenSpec.upto shapeCountsSpec)

/-- 'imprimaturlaw06.ShapeConfigs', WHERE WHAT IT READS IS OF BULK AT MOST 1048576: true; the input reads as it did. -/
def shapeConfigsUptoRow : OpenClaim := { program := "ytnomeokicfpidaa", sum := "02dbfe8edbef2507763e86c825e275441ca14caee9a1fa440a10acec4dd68fb0", func := "imprimatur/imprimaturlaw06.ShapeConfigs", spec := "shapeConfigs", apart := false, narrowed := true }
def ShapeConfigsUptoSaid : Prop := shapeConfigsUptoRow.holds Try.pinned (OpenSpec.upto shapeConfigsSpec)

/-- 'imprimaturlaw06.ShapeForms', WHERE WHAT IT READS IS OF BULK AT MOST 1048576: true; the input reads as it did. -/
def shapeFormsUptoRow : OpenClaim := { program := "ytnomeokicfpidaa", sum := "02dbfe8edbef2507763e86c825e275441ca14caee9a1fa440a10acec4dd68fb0", func := "imprimatur/imprimaturlaw06.ShapeForms", spec := "shapeForms", apart := false, narrowed := true }
def ShapeFormsUptoSaid : Prop := shapeFormsUptoRow.holds Try.pinned (OpenSpec.upto shapeFormsSpec)

/-- 'imprimaturlaw06.ShapeRaw', WHERE WHAT IT READS IS OF BULK AT MOST 1048576: true; the input reads as it did. -/
def shapeRawUptoRow : OpenClaim := { program := "ytnomeokicfpidaa", sum := "02dbfe8edbef2507763e86c825e275441ca14caee9a1fa440a10acec4dd68fb0", func := "imprimatur/imprimaturlaw06.ShapeRaw", spec := "shapeRaw", apart := false, narrowed := true }
def ShapeRawUptoSaid : Prop := shapeRawUptoRow.holds Try.pinned (OpenSpec.upto shapeRawSpec)

/-- 'imprimaturlaw07.EnterMemory', WHERE WHAT IT READS IS OF BULK AT MOST 1048576: true; the input reads as it did. -/
def enterMemoryUptoRow : OpenClaim := { program := "ytnomeokicfpidaa", sum := "02dbfe8edbef2507763e86c825e275441ca14caee9a1fa440a10acec4dd68fb0", func := "imprimatur/imprimaturlaw07.EnterMemory", spec := "enterMemory", recurses := true, apart := false, narrowed := true }
def EnterMemoryUptoSaid : Prop := enterMemoryUptoRow.holds Try.pinned (OpenSpec.upto enterMemorySpec)

/-- 'imprimaturlaw07.EnterStart', WHERE WHAT IT READS IS OF BULK AT MOST 1048576: true; the input reads as it did. -/
def enterStartUptoRow : OpenClaim := { program := "ytnomeokicfpidaa", sum := "02dbfe8edbef2507763e86c825e275441ca14caee9a1fa440a10acec4dd68fb0", func := "imprimatur/imprimaturlaw07.EnterStart", spec := "enterStart", recurses := true, apart := false, narrowed := true }
def EnterStartUptoSaid : Prop := enterStartUptoRow.holds Try.pinned (OpenSpec.upto enterStartSpec)

/-- 'imprimaturlaw07.EnterSelf', WHERE WHAT IT READS IS OF BULK AT MOST 1048576: true; the input reads as it did. -/
def enterSelfUptoRow : OpenClaim := { program := "ytnomeokicfpidaa", sum := "02dbfe8edbef2507763e86c825e275441ca14caee9a1fa440a10acec4dd68fb0", func := "imprimatur/imprimaturlaw07.EnterSelf", spec := "enterSelf", recurses := true, apart := false, narrowed := true }
def EnterSelfUptoSaid : Prop := enterSelfUptoRow.holds Try.pinned (OpenSpec.upto enterSelfSpec)

/-- 'imprimaturlaw07.EnterTells', WHERE WHAT IT READS IS OF BULK AT MOST 1048576: true; the input reads as it did. -/
def enterTellsUptoRow : OpenClaim := { program := "ytnomeokicfpidaa", sum := "02dbfe8edbef2507763e86c825e275441ca14caee9a1fa440a10acec4dd68fb0", func := "imprimatur/imprimaturlaw07.EnterTells", spec := "enterTells", recurses := true, apart := false, narrowed := true }
def EnterTellsUptoSaid : Prop := enterTellsUptoRow.holds Try.pinned (OpenSpec.upto enterTellsSpec)

/-- 'imprimaturlaw07.EnterBack', WHERE WHAT IT READS IS OF BULK AT MOST 1048576: true; the input reads as it did. -/
def enterBackUptoRow : OpenClaim := { program := "ytnomeokicfpidaa", sum := "02dbfe8edbef2507763e86c825e275441ca14caee9a1fa440a10acec4dd68fb0", func := "imprimatur/imprimaturlaw07.EnterBack", spec := "enterBack", recurses := true, apart := false, narrowed := true }
def EnterBackUptoSaid : Prop := enterBackUptoRow.holds Try.pinned (OpenSpec.upto enterBackSpec)

/-- 'imprimaturlaw07.EnterProper', WHERE WHAT IT READS IS OF BULK AT MOST 1048576: true; the input reads as it did. -/
def enterProperUptoRow : OpenClaim := { program := "ytnomeokicfpidaa", sum := "02dbfe8edbef2507763e86c825e275441ca14caee9a1fa440a10acec4dd68fb0", func := "imprimatur/imprimaturlaw07.EnterProper", spec := "enterProper", recurses := true, apart := false, narrowed := true }
def EnterProperUptoSaid : Prop := enterProperUptoRow.holds Try.pinned (OpenSpec.upto enterProperSpec)

end Rows
end Go.Proofs.Ytnomeokicfpidaa
