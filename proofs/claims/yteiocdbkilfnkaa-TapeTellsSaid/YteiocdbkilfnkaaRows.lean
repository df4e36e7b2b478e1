/-
  No cell of these rows narrows 'for every input' (looked for: loops, veiled, ifaces, maps, wideKeys, modest, calm, conditions, laid).
  DERIVED. THE GIVEN ROWS OF THIS SEAT. 11 by the template 'for every input the law returns true; each argument reads behind the call as it read before'; 0 by the template 'total and deterministic' (their statements: YteiocdbkilfnkaaTotals.lean).
  GIVEN WITH THE SEED: the statements are not yours to turn. If you find one false, say at which input.
  Laid BY PROGRAM, IN A SANDBOX (cutbox-rows.mjs): the forced cells as the released guide's own fill.sh prints them over the translation d3331d94b446a8d3… (all of the seat's roots in one cut). By AI agents, Wed Nov 11 2026. No macro, syntax, notation, axiom, sorry.
-/
import Derived.Test.YteiocdbkilfnkaaChecked
import GoSem.Claim
import GoSem.ClaimJoined
import GoSem.ClaimMapViews
import Derived.JoinedTies
import Derived.KernelRfl
namespace Go.Proofs.Yteiocdbkilfnkaa
/- THE CELL 'sum', in the pinned program and in every row, IS THE sha256 OF THE DUMP (.gsa) THAT YteiocdbkilfnkaaProg.lean LOADS. Nothing in Lean hashes anything: it is a label: what it is worth is what the hold of that sum in a sandbox is worth. -/
noncomputable def Try.pinned : Pinned := { name := "yteiocdbkilfnkaa", sum := "d3331d94b446a8d35db369f709b58151f8ae51ef2fe4b7896dd855991a61adcf", checked := Try.checked }
namespace Rows
def none {H : Type} : Left H := { results := [], args := [] }

/-- 'millstreamlaw08.CodeTells': WHATEVER THE INPUT: true; the input reads as it did. -/
def codeTellsSpec : ChangeSpec := { name := "codeTells", fn := fun _ => fun
  | [d] => { results := [.lit (.bool true)], args := [d] }
  | _ => none }
def codeTellsRow : OpenClaim := { program := "yteiocdbkilfnkaa", sum := "d3331d94b446a8d35db369f709b58151f8ae51ef2fe4b7896dd855991a61adcf", func := "millstream/millstreamlaw08.CodeTells", spec := "codeTells", apart := false }
def CodeTellsSaid : Prop := codeTellsRow.holds Try.pinned (OpenSpec.ofChange codeTellsSpec)

/-- ITS FALSE NEIGHBOUR: 'it returns false'. Refute it at one input. -/
def codeTellsWrong : ChangeSpec := { name := "codeTells", fn := fun _ => fun
  | [d] => { results := [.lit (.bool false)], args := [d] }
  | _ => none }
def CodeTellsWrongFalsely : Prop := codeTellsRow.holds Try.pinned (OpenSpec.ofChange codeTellsWrong)

/-- 'millstreamlaw08.CodeNothing': WHATEVER THE INPUT: true; the input reads as it did. -/
def codeNothingSpec : ChangeSpec := { name := "codeNothing", fn := fun _ => fun
  | [d] => { results := [.lit (.bool true)], args := [d] }
  | _ => none }
def codeNothingRow : OpenClaim := { program := "yteiocdbkilfnkaa", sum := "d3331d94b446a8d35db369f709b58151f8ae51ef2fe4b7896dd855991a61adcf", func := "millstream/millstreamlaw08.CodeNothing", spec := "codeNothing", apart := false }
def CodeNothingSaid : Prop := codeNothingRow.holds Try.pinned (OpenSpec.ofChange codeNothingSpec)

/-- ITS FALSE NEIGHBOUR: 'it returns false'. Refute it at one input. -/
def codeNothingWrong : ChangeSpec := { name := "codeNothing", fn := fun _ => fun
  | [d] => { results := [.lit (.bool false)], args := [d] }
  | _ => none }
def CodeNothingWrongFalsely : Prop := codeNothingRow.holds Try.pinned (OpenSpec.ofChange codeNothingWrong)

/-- 'millstreamlaw04.TapeTells': WHATEVER THE INPUT: true; the input reads as it did. -/
def tapeTellsSpec : ChangeSpec := { name := "tapeTells", fn := fun _ => fun
  | [d1, d2] => { results := [.lit (.bool true)], args := [d1, d2] }
  | _ => none }
def tapeTellsRow : OpenClaim := { program := "yteiocdbkilfnkaa", sum := "d3331d94b446a8d35db369f709b58151f8ae51ef2fe4b7896dd855991a61adcf", func := "millstream/millstreamlaw04.TapeTells", spec := "tapeTells", apart := false }
def TapeTellsSaid : Prop := tapeTellsRow.holds Try.pinned (OpenSpec.ofChange tapeTellsSpec)

/-- ITS FALSE NEIGHBOUR: 'it returns false'. Refute it at one input. -/
def tapeTellsWrong : ChangeSpec := { name := "tapeTells", fn := fun _ => fun
  | [d1, d2] => { results := [.lit (.bool false)], args := [d1, d2] }
  | _ => none }
def TapeTellsWrongFalsely : Prop := tapeTellsRow.holds Try.pinned (OpenSpec.ofChange tapeTellsWrong)

/-- 'millstreamlaw04.TapeOrder': WHATEVER THE INPUT: true; the input reads as it did. -/
def tapeOrderSpec : ChangeSpec := { name := "tapeOrder", fn := fun _ => fun
  | [d1, d2] => { results := [.lit (.bool true)], args := [d1, d2] }
  | _ => none }
def tapeOrderRow : OpenClaim := { program := "yteiocdbkilfnkaa", sum := "d3331d94b446a8d35db369f709b58151f8ae51ef2fe4b7896dd855991a61adcf", func := "millstream/millstreamlaw04.TapeOrder", spec := "tapeOrder", apart := false }
def TapeOrderSaid : Prop := tapeOrderRow.holds Try.pinned (OpenSpec.ofChange tapeOrderSpec)

/-- ITS FALSE NEIGHBOUR: 'it returns false'. Refute it at one input. -/
def tapeOrderWrong : ChangeSpec := { name := "tapeOrder", fn := fun _ => fun
  | [d1, d2] => { results := [.lit (.bool false)], args := [d1, d2] }
  | _ => none }
def TapeOrderWrongFalsely : Prop := tapeOrderRow.holds Try.pinned (OpenSpec.ofChange tapeOrderWrong)

/-- 'millstreamlaw04.TapeBelow': WHATEVER THE INPUT: true; the input reads as it did. -/
def tapeBelowSpec : ChangeSpec := { name := "tapeBelow", fn := fun _ => fun
  | [d1, d2] => { results := [.lit (.bool true)], args := [d1, d2] }
  | _ => none }
def tapeBelowRow : OpenClaim := { program := "yteiocdbkilfnkaa", sum := "d3331d94b446a8d35db369f709b58151f8ae51ef2fe4b7896dd855991a61adcf", func := "millstream/millstreamlaw04.TapeBelow", spec := "tapeBelow", apart := false }
def TapeBelowSaid : Prop := tapeBelowRow.holds Try.pinned (OpenSpec.ofChange tapeBelowSpec)

/-- ITS FALSE NEIGHBOUR: 'it returns false'. Refute it at one input. -/
def tapeBelowWrong : ChangeSpec := { name := "tapeBelow", fn := fun _ => fun
  | [d1, d2] => { results := [.lit (.bool false)], args := [d1, d2] }
  | _ => none }
def TapeBelowWrongFalsely : Prop := tapeBelowRow.holds Try.pinned (OpenSpec.ofChange tapeBelowWrong)

/-- 'millstreamlaw04.TapeSpent': WHATEVER THE INPUT: true; the input reads as it did. -/
def tapeSpentSpec : ChangeSpec := { name := "tapeSpent", fn := fun _ => fun
  | [d1, d2, d3] => { results := [.lit (.bool true)], args := [d1, d2, d3] }
  | _ => none }
def tapeSpentRow : OpenClaim := { program := "yteiocdbkilfnkaa", sum := "d3331d94b446a8d35db369f709b58151f8ae51ef2fe4b7896dd855991a61adcf", func := "millstream/millstreamlaw04.TapeSpent", spec := "tapeSpent", apart := false }
def TapeSpentSaid : Prop := tapeSpentRow.holds Try.pinned (OpenSpec.ofChange tapeSpentSpec)

/-- ITS FALSE NEIGHBOUR: 'it returns false'. Refute it at one input. -/
def tapeSpentWrong : ChangeSpec := { name := "tapeSpent", fn := fun _ => fun
  | [d1, d2, d3] => { results := [.lit (.bool false)], args := [d1, d2, d3] }
  | _ => none }
def TapeSpentWrongFalsely : Prop := tapeSpentRow.holds Try.pinned (OpenSpec.ofChange tapeSpentWrong)

/-- 'millstreamlaw04.TapeAlike': WHATEVER THE INPUT: true; the input reads as it did. -/
def tapeAlikeSpec : ChangeSpec := { name := "tapeAlike", fn := fun _ => fun
  | [d1, d2, d3, d4] => { results := [.lit (.bool true)], args := [d1, d2, d3, d4] }
  | _ => none }
def tapeAlikeRow : OpenClaim := { program := "yteiocdbkilfnkaa", sum := "d3331d94b446a8d35db369f709b58151f8ae51ef2fe4b7896dd855991a61adcf", func := "millstream/millstreamlaw04.TapeAlike", spec := "tapeAlike", apart := false }
def TapeAlikeSaid : Prop := tapeAlikeRow.holds Try.pinned (OpenSpec.ofChange tapeAlikeSpec)

/-- ITS FALSE NEIGHBOUR: 'it returns false'. Refute it at one input. -/
def tapeAlikeWrong : ChangeSpec := { name := "tapeAlike", fn := fun _ => fun
  | [d1, d2, d3, d4] => { results := [.lit (.bool false)], args := [d1, d2, d3, d4] }
  | _ => none }
def TapeAlikeWrongFalsely : Prop := tapeAlikeRow.holds Try.pinned (OpenSpec.ofChange tapeAlikeWrong)

/-- 'millstreamlaw04.TapeSkips': WHATEVER THE INPUT: true; the input reads as it did. -/
def tapeSkipsSpec : ChangeSpec := { name := "tapeSkips", fn := fun _ => fun
  | [d1, d2, d3] => { results := [.lit (.bool true)], args := [d1, d2, d3] }
  | _ => none }
def tapeSkipsRow : OpenClaim := { program := "yteiocdbkilfnkaa", sum := "d3331d94b446a8d35db369f709b58151f8ae51ef2fe4b7896dd855991a61adcf", func := "millstream/millstreamlaw04.TapeSkips", spec := "tapeSkips", apart := false }
def TapeSkipsSaid : Prop := tapeSkipsRow.holds Try.pinned (OpenSpec.ofChange tapeSkipsSpec)

/-- ITS FALSE NEIGHBOUR: 'it returns false'. Refute it at one input. -/
def tapeSkipsWrong : ChangeSpec := { name := "tapeSkips", fn := fun _ => fun
  | [d1, d2, d3] => { results := [.lit (.bool false)], args := [d1, d2, d3] }
  | _ => none }
def TapeSkipsWrongFalsely : Prop := tapeSkipsRow.holds Try.pinned (OpenSpec.ofChange tapeSkipsWrong)

/-- 'millstreamlaw08.CodeBack': WHATEVER THE INPUT: true; the input reads as it did. -/
def codeBackSpec : ChangeSpec := { name := "codeBack", fn := fun _ => fun
  | [d1, d2, d3] => { results := [.lit (.bool true)], args := [d1, d2, d3] }
  | _ => none }
def codeBackRow : OpenClaim := { program := "yteiocdbkilfnkaa", sum := "d3331d94b446a8d35db369f709b58151f8ae51ef2fe4b7896dd855991a61adcf", func := "millstream/millstreamlaw08.CodeBack", spec := "codeBack", apart := false }
def CodeBackSaid : Prop := codeBackRow.holds Try.pinned (OpenSpec.ofChange codeBackSpec)

/-- ITS FALSE NEIGHBOUR: 'it returns false'. Refute it at one input. -/
def codeBackWrong : ChangeSpec := { name := "codeBack", fn := fun _ => fun
  | [d1, d2, d3] => { results := [.lit (.bool false)], args := [d1, d2, d3] }
  | _ => none }
def CodeBackWrongFalsely : Prop := codeBackRow.holds Try.pinned (OpenSpec.ofChange codeBackWrong)

/-- 'millstreamlaw08.CodeMakes': WHATEVER THE INPUT: true; the input reads as it did. -/
def codeMakesSpec : ChangeSpec := { name := "codeMakes", fn := fun _ => fun
  | [d1, d2, d3] => { results := [.lit (.bool true)], args := [d1, d2, d3] }
  | _ => none }
def codeMakesRow : OpenClaim := { program := "yteiocdbkilfnkaa", sum := "d3331d94b446a8d35db369f709b58151f8ae51ef2fe4b7896dd855991a61adcf", func := "millstream/millstreamlaw08.CodeMakes", spec := "codeMakes", apart := false }
def CodeMakesSaid : Prop := codeMakesRow.holds Try.pinned (OpenSpec.ofChange codeMakesSpec)

/-- ITS FALSE NEIGHBOUR: 'it returns false'. Refute it at one input. -/
def codeMakesWrong : ChangeSpec := { name := "codeMakes", fn := fun _ => fun
  | [d1, d2, d3] => { results := [.lit (.bool false)], args := [d1, d2, d3] }
  | _ => none }
def CodeMakesWrongFalsely : Prop := codeMakesRow.holds Try.pinned (OpenSpec.ofChange codeMakesWrong)

/-- 'millstreamlaw08.CodeApart': WHATEVER THE INPUT: true; the input reads as it did. -/
def codeApartSpec : ChangeSpec := { name := "codeApart", fn := fun _ => fun
  | [d1, d2, d3, d4, d5, d6] => { results := [.lit (.bool true)], args := [d1, d2, d3, d4, d5, d6] }
  | _ => none }
def codeApartRow : OpenClaim := { program := "yteiocdbkilfnkaa", sum := "d3331d94b446a8d35db369f709b58151f8ae51ef2fe4b7896dd855991a61adcf", func := "millstream/millstreamlaw08.CodeApart", spec := "codeApart", apart := false }
def CodeApartSaid : Prop := codeApartRow.holds Try.pinned (OpenSpec.ofChange codeApartSpec)

/-- ITS FALSE NEIGHBOUR: 'it returns false'. Refute it at one input. -/
def codeApartWrong : ChangeSpec := { name := "codeApart", fn := fun _ => fun
  | [d1, d2, d3, d4, d5, d6] => { results := [.lit (.bool false)], args := [d1, d2, d3, d4, d5, d6] }
  | _ => none }
def CodeApartWrongFalsely : Prop := codeApartRow.holds Try.pinned (OpenSpec.ofChange codeApartWrong)

/- THE SECOND FORM. 'bulk': how many values and letters a reading holds, each counted each time it is reached (what is shared counts as often as it is met; a slice's spare places count too). A statement '..UptoSaid' is the law's where the arguments, and the package variables that the reading takes, are together of bulk at most 1048576: NARROWER than '..Said'. Prove '..Said' where nothing that the law and all that it calls make is longer than what came in: it says more and counts as full. Else prove '..UptoSaid'. A law counts once. -/
mutual
def uptoBulk {H : Type} : DataW H → Nat
  | .lit (.string bytes) => bytes.length + 1
  | .lit _ => 1
  | .nil => 1
  | .ptr d => uptoBulk d + 1
  | .slice elems spare => uptoBulkAll elems + uptoBulkAll spare + 1
  | .agg parts => uptoBulkAll parts + 1
  | .iface _ d => uptoBulk d + 1
  | .map entries => uptoBulkEntries entries + 1
  | .held _ => 1
def uptoBulkAll {H : Type} : List (DataW H) → Nat
  | [] => 0
  | d :: r => uptoBulk d + uptoBulkAll r
def uptoBulkEntries {H : Type} : List (Lit × DataW H) → Nat
  | [] => 0
  | x :: r => uptoBulkEntry x + uptoBulkEntries r
def uptoBulkEntry {H : Type} : Lit × DataW H → Nat
  | (.string bytes, d) => bytes.length + uptoBulk d + 1
  | (_, d) => uptoBulk d + 1
 end
def uptoSmall : (H : Type) → List (DataW H) → Bool := fun _ ds => decide (uptoBulkAll ds ≤ 1048576)
def OpenSpec.upto (s : _root_.Go.ChangeSpec) : _root_.Go.OpenSpec := { _root_.Go.OpenSpec.ofChange s with cond := some uptoSmall }

/-- 'millstreamlaw08.CodeTells', WHERE WHAT IT READS IS OF BULK AT MOST 1048576: true; the input reads as it did. -/
def codeTellsUptoRow : OpenClaim := { program := "yteiocdbkilfnkaa", sum := "d3331d94b446a8d35db369f709b58151f8ae51ef2fe4b7896dd855991a61adcf", func := "millstream/millstreamlaw08.CodeTells", spec := "codeTells", apart := false, narrowed := true }
def CodeTellsUptoSaid : Prop := codeTellsUptoRow.holds Try.pinned (OpenSpec.upto codeTellsSpec)

/-- 'millstreamlaw08.CodeNothing', WHERE WHAT IT READS IS OF BULK AT MOST 1048576: true; the input reads as it did. -/
def codeNothingUptoRow : OpenClaim := { program := "yteiocdbkilfnkaa", sum := "d3331d94b446a8d35db369f709b58151f8ae51ef2fe4b7896dd855991a61adcf", func := "millstream/millstreamlaw08.CodeNothing", spec := "codeNothing", apart := false, narrowed := true }
def CodeNothingUptoSaid : Prop := codeNothingUptoRow.holds Try.pinned (OpenSpec.upto codeNothingSpec)

/-- 'millstreamlaw04.TapeTells', WHERE WHAT IT READS IS OF BULK AT MOST 1048576: true; the input reads as it did. -/
def tapeTellsUptoRow : OpenClaim := { program := "yteiocdbkilfnkaa", sum := "d3331d94b446a8d35db369f709b58151f8ae51ef2fe4b7896dd855991a61adcf", func := "millstream/millstreamlaw04.TapeTells", spec := "tapeTells", apart := false, narrowed := true }
def TapeTellsUptoSaid : Prop := tapeTellsUptoRow.holds Try.pinned (OpenSpec.upto tapeTellsSpec)

/-- 'millstreamlaw04.TapeOrder', WHERE WHAT IT READS IS OF BULK AT MOST 1048576: true; the input reads as it did. -/
def tapeOrderUptoRow : OpenClaim := { program := "yteiocdbkilfnkaa", sum := "d3331d94b446a8d35db369f709b58151f8ae51ef2fe4b7896dd855991a61adcf", func := "millstream/millstreamlaw04.TapeOrder", spec := "tapeOrder", apart := false, narrowed := true }
def TapeOrderUptoSaid : Prop := tapeOrderUptoRow.holds Try.pinned (OpenSpec.upto tapeOrderSpec)

/-- 'millstreamlaw04.TapeBelow', WHERE WHAT IT READS IS OF BULK AT MOST 1048576: true; the input reads as it did. -/
def tapeBelowUptoRow : OpenClaim := { program := "yteiocdbkilfnkaa", sum := "d3331d94b446a8d35db369f709b58151f8ae51ef2fe4b7896dd855991a61adcf", func := "millstream/millstreamlaw04.TapeBelow", spec := "tapeBelow", apart := false, narrowed := true }
def TapeBelowUptoSaid : Prop := tapeBelowUptoRow.holds Try.pinned (OpenSpec.upto tapeBelowSpec)

/-- 'millstreamlaw04.TapeSpent', WHERE WHAT IT READS IS OF BULK AT MOST 1048576: true; the input reads as it did. -/
def tapeSpentUptoRow : OpenClaim := { program := "yteiocdbkilfnkaa", sum := "d3331d94b446a8d35db369f709b58151f8ae51ef2fe4b7896dd855991a61adcf", func := "millstream/millstreamlaw04.TapeSpent", spec := "tapeSpent", apart := false, narrowed := true }
def TapeSpentUptoSaid : Prop := tapeSpentUptoRow.holds Try.pinned (OpenSpec.upto tapeSpentSpec)

/-- 'millstreamlaw04.TapeAlike', WHERE WHAT IT READS IS OF BULK AT MOST 1048576: true; the input reads as it did. -/
def tapeAlikeUptoRow : OpenClaim := { program := "yteiocdbkilfnkaa", sum := "d3331d94b446a8d35db369f709b58151f8ae51ef2fe4b7896dd855991a61adcf", func := "millstream/millstreamlaw04.TapeAlike", spec := "tapeAlike", apart := false, narrowed := true }
def TapeAlikeUptoSaid : Prop := tapeAlikeUptoRow.holds Try.pinned (OpenSpec.upto tapeAlikeSpec)

/-- 'millstreamlaw04.TapeSkips', WHERE WHAT IT READS IS OF BULK AT MOST 1048576: true; the input reads as it did. -/
def tapeSkipsUptoRow : OpenClaim := { program := "yteiocdbkilfnkaa", sum := "d3331d94b446a8d35db369f709b58151f8ae51ef2fe4b7896dd855991a61adcf", func := "millstream/millstreamlaw04.TapeSkips", spec := "tapeSkips", apart := false, narrowed := true }
def TapeSkipsUptoSaid : Prop := tapeSkipsUptoRow.holds Try.pinned (OpenSpec.upto tapeSkipsSpec)

/-- 'millstreamlaw08.CodeBack', WHERE WHAT IT READS IS OF BULK AT MOST 1048576: true; the input reads as it did. -/
def codeBackUptoRow : OpenClaim := { program := "yteiocdbkilfnkaa", sum := "d3331d94b446a8d35db369f709b58151f8ae51ef2fe4b7896dd855991a61adcf", func := "millstream/millstreamlaw08.CodeBack", spec := "codeBack", apart := false, narrowed := true }
def CodeBackUptoSaid : Prop := codeBackUptoRow.holds Try.pinned (OpenSpec.upto codeBackSpec)

/-- 'millstreamlaw08.CodeMakes', WHERE WHAT IT READS IS OF BULK AT MOST 1048576: true; the input reads as it did. -/
def codeMakesUptoRow : OpenClaim := { program := "yteiocdbkilfnkaa", sum := "d3331d94b446a8d35db369f709b58151f8ae51ef2fe4b7896dd855991a61adcf", func := "millstream/millstreamlaw08.CodeMakes", spec := "codeMakes", apart := false, narrowed := true }
def CodeMakesUptoSaid : Prop := codeMakesUptoRow.holds Try.pinned (OpenSpec.upto codeMakesSpec)

/-- 'millstreamlaw08.CodeApart', WHERE WHAT IT READS IS OF BULK AT MOST 1048576: true; the input reads as it did. -/
def codeApartUptoRow : OpenClaim := { program := "yteiocdbkilfnkaa", sum := "d3331d94b446a8d35db369f709b58151f8ae51ef2fe4b7896dd855991a61adcf", func := "millstream/millstreamlaw08.CodeApart", spec := "codeApart", apart := false, narrowed := true }
def CodeApartUptoSaid : Prop := codeApartUptoRow.holds Try.pinned (OpenSpec.upto codeApartSpec)

end Rows
end Go.Proofs.Yteiocdbkilfnkaa
