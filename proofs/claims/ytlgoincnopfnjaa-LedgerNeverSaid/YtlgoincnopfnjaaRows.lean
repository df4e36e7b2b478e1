/-
  No cell of these rows narrows 'for every input' (looked for: loops, veiled, ifaces, maps, wideKeys, modest, calm, conditions, laid).
  DERIVED. THE GIVEN ROWS OF THIS SEAT. 7 by the template 'for every input the law returns true; each argument reads behind the call as it read before'; 0 by the template 'total and deterministic' (their statements: YtlgoincnopfnjaaTotals.lean).
  GIVEN WITH THE SEED: the statements are not yours to turn. If you find one false, say at which input.
  Laid BY PROGRAM, IN A SANDBOX (cutbox-rows.mjs): the forced cells as the released guide's own fill.sh prints them over the translation 711e703d93a886fb… (all of the seat's roots in one cut). By AI agents, Wed Nov 11 2026. No macro, syntax, notation, axiom, sorry.
-/
import Derived.Test.YtlgoincnopfnjaaChecked
import GoSem.Claim
import GoSem.ClaimJoined
import GoSem.ClaimMapViews
import Derived.JoinedTies
import Derived.KernelRfl
namespace Go.Proofs.Ytlgoincnopfnjaa
/- THE CELL 'sum', in the pinned program and in every row, IS THE sha256 OF THE DUMP (.gsa) THAT YtlgoincnopfnjaaProg.lean LOADS. Nothing in Lean hashes anything: it is a label: what it is worth is what the hold of that sum in a sandbox is worth. -/
noncomputable def Try.pinned : Pinned := { name := "ytlgoincnopfnjaa", sum := "711e703d93a886fb557a1ee183dec8d18660f3a3ae05b4f7714b373cebd31a37", checked := Try.checked }
namespace Rows
def none {H : Type} : Left H := { results := [], args := [] }

/-- 'millstreamlaw20.LedgerActs': WHATEVER THE INPUT: true; the input reads as it did. -/
def ledgerActsSpec : ChangeSpec := { name := "ledgerActs", fn := fun _ => fun
  | [d1, d2, d3, d4] => { results := [.lit (.bool true)], args := [d1, d2, d3, d4] }
  | _ => none }
def ledgerActsRow : OpenClaim := { program := "ytlgoincnopfnjaa", sum := "711e703d93a886fb557a1ee183dec8d18660f3a3ae05b4f7714b373cebd31a37", func := "millstream/millstreamlaw20.LedgerActs", spec := "ledgerActs", apart := false }
def LedgerActsSaid : Prop := ledgerActsRow.holds Try.pinned (OpenSpec.ofChange ledgerActsSpec)

/-- ITS FALSE NEIGHBOUR: 'it returns false'. Refute it at one input. -/
def ledgerActsWrong : ChangeSpec := { name := "ledgerActs", fn := fun _ => fun
  | [d1, d2, d3, d4] => { results := [.lit (.bool false)], args := [d1, d2, d3, d4] }
  | _ => none }
def LedgerActsWrongFalsely : Prop := ledgerActsRow.holds Try.pinned (OpenSpec.ofChange ledgerActsWrong)

/-- 'millstreamlaw20.LedgerNew': WHATEVER THE INPUT: true; the input reads as it did. -/
def ledgerNewSpec : ChangeSpec := { name := "ledgerNew", fn := fun _ => fun
  | [d1, d2, d3, d4, d5] => { results := [.lit (.bool true)], args := [d1, d2, d3, d4, d5] }
  | _ => none }
def ledgerNewRow : OpenClaim := { program := "ytlgoincnopfnjaa", sum := "711e703d93a886fb557a1ee183dec8d18660f3a3ae05b4f7714b373cebd31a37", func := "millstream/millstreamlaw20.LedgerNew", spec := "ledgerNew", apart := false }
def LedgerNewSaid : Prop := ledgerNewRow.holds Try.pinned (OpenSpec.ofChange ledgerNewSpec)

/-- ITS FALSE NEIGHBOUR: 'it returns false'. Refute it at one input. -/
def ledgerNewWrong : ChangeSpec := { name := "ledgerNew", fn := fun _ => fun
  | [d1, d2, d3, d4, d5] => { results := [.lit (.bool false)], args := [d1, d2, d3, d4, d5] }
  | _ => none }
def LedgerNewWrongFalsely : Prop := ledgerNewRow.holds Try.pinned (OpenSpec.ofChange ledgerNewWrong)

/-- 'millstreamlaw20.LedgerKeeps': WHATEVER THE INPUT: true; the input reads as it did. -/
def ledgerKeepsSpec : ChangeSpec := { name := "ledgerKeeps", fn := fun _ => fun
  | [d1, d2, d3, d4] => { results := [.lit (.bool true)], args := [d1, d2, d3, d4] }
  | _ => none }
def ledgerKeepsRow : OpenClaim := { program := "ytlgoincnopfnjaa", sum := "711e703d93a886fb557a1ee183dec8d18660f3a3ae05b4f7714b373cebd31a37", func := "millstream/millstreamlaw20.LedgerKeeps", spec := "ledgerKeeps", apart := false }
def LedgerKeepsSaid : Prop := ledgerKeepsRow.holds Try.pinned (OpenSpec.ofChange ledgerKeepsSpec)

/-- ITS FALSE NEIGHBOUR: 'it returns false'. Refute it at one input. -/
def ledgerKeepsWrong : ChangeSpec := { name := "ledgerKeeps", fn := fun _ => fun
  | [d1, d2, d3, d4] => { results := [.lit (.bool false)], args := [d1, d2, d3, d4] }
  | _ => none }
def LedgerKeepsWrongFalsely : Prop := ledgerKeepsRow.holds Try.pinned (OpenSpec.ofChange ledgerKeepsWrong)

/-- 'millstreamlaw20.LedgerApart': WHATEVER THE INPUT: true; the input reads as it did. -/
def ledgerApartSpec : ChangeSpec := { name := "ledgerApart", fn := fun _ => fun
  | [d1, d2, d3, d4, d5] => { results := [.lit (.bool true)], args := [d1, d2, d3, d4, d5] }
  | _ => none }
def ledgerApartRow : OpenClaim := { program := "ytlgoincnopfnjaa", sum := "711e703d93a886fb557a1ee183dec8d18660f3a3ae05b4f7714b373cebd31a37", func := "millstream/millstreamlaw20.LedgerApart", spec := "ledgerApart", apart := false }
def LedgerApartSaid : Prop := ledgerApartRow.holds Try.pinned (OpenSpec.ofChange ledgerApartSpec)

/-- ITS FALSE NEIGHBOUR: 'it returns false'. Refute it at one input. -/
def ledgerApartWrong : ChangeSpec := { name := "ledgerApart", fn := fun _ => fun
  | [d1, d2, d3, d4, d5] => { results := [.lit (.bool false)], args := [d1, d2, d3, d4, d5] }
  | _ => none }
def LedgerApartWrongFalsely : Prop := ledgerApartRow.holds Try.pinned (OpenSpec.ofChange ledgerApartWrong)

/-- 'millstreamlaw20.LedgerBoth': WHATEVER THE INPUT: true; the input reads as it did. -/
def ledgerBothSpec : ChangeSpec := { name := "ledgerBoth", fn := fun _ => fun
  | [d1, d2, d3, d4] => { results := [.lit (.bool true)], args := [d1, d2, d3, d4] }
  | _ => none }
def ledgerBothRow : OpenClaim := { program := "ytlgoincnopfnjaa", sum := "711e703d93a886fb557a1ee183dec8d18660f3a3ae05b4f7714b373cebd31a37", func := "millstream/millstreamlaw20.LedgerBoth", spec := "ledgerBoth", apart := false }
def LedgerBothSaid : Prop := ledgerBothRow.holds Try.pinned (OpenSpec.ofChange ledgerBothSpec)

/-- ITS FALSE NEIGHBOUR: 'it returns false'. Refute it at one input. -/
def ledgerBothWrong : ChangeSpec := { name := "ledgerBoth", fn := fun _ => fun
  | [d1, d2, d3, d4] => { results := [.lit (.bool false)], args := [d1, d2, d3, d4] }
  | _ => none }
def LedgerBothWrongFalsely : Prop := ledgerBothRow.holds Try.pinned (OpenSpec.ofChange ledgerBothWrong)

/-- 'millstreamlaw20.LedgerBack': WHATEVER THE INPUT: true; the input reads as it did. -/
def ledgerBackSpec : ChangeSpec := { name := "ledgerBack", fn := fun _ => fun
  | [d1, d2, d3] => { results := [.lit (.bool true)], args := [d1, d2, d3] }
  | _ => none }
def ledgerBackRow : OpenClaim := { program := "ytlgoincnopfnjaa", sum := "711e703d93a886fb557a1ee183dec8d18660f3a3ae05b4f7714b373cebd31a37", func := "millstream/millstreamlaw20.LedgerBack", spec := "ledgerBack", apart := false }
def LedgerBackSaid : Prop := ledgerBackRow.holds Try.pinned (OpenSpec.ofChange ledgerBackSpec)

/-- ITS FALSE NEIGHBOUR: 'it returns false'. Refute it at one input. -/
def ledgerBackWrong : ChangeSpec := { name := "ledgerBack", fn := fun _ => fun
  | [d1, d2, d3] => { results := [.lit (.bool false)], args := [d1, d2, d3] }
  | _ => none }
def LedgerBackWrongFalsely : Prop := ledgerBackRow.holds Try.pinned (OpenSpec.ofChange ledgerBackWrong)

/-- 'millstreamlaw20.LedgerNever': WHATEVER THE INPUT: true; the input reads as it did. -/
def ledgerNeverSpec : ChangeSpec := { name := "ledgerNever", fn := fun _ => fun
  | [d1, d2, d3, d4, d5] => { results := [.lit (.bool true)], args := [d1, d2, d3, d4, d5] }
  | _ => none }
def ledgerNeverRow : OpenClaim := { program := "ytlgoincnopfnjaa", sum := "711e703d93a886fb557a1ee183dec8d18660f3a3ae05b4f7714b373cebd31a37", func := "millstream/millstreamlaw20.LedgerNever", spec := "ledgerNever", apart := false }
def LedgerNeverSaid : Prop := ledgerNeverRow.holds Try.pinned (OpenSpec.ofChange ledgerNeverSpec)

/-- ITS FALSE NEIGHBOUR: 'it returns false'. Refute it at one input. -/
def ledgerNeverWrong : ChangeSpec := { name := "ledgerNever", fn := fun _ => fun
  | [d1, d2, d3, d4, d5] => { results := [.lit (.bool false)], args := [d1, d2, d3, d4, d5] }
  | _ => none }
def LedgerNeverWrongFalsely : Prop := ledgerNeverRow.holds Try.pinned (OpenSpec.ofChange ledgerNeverWrong)

/- THE SECOND FORM. 'bulk': how many values and letters a reading holds, each counted each time it is reached (what is shared counts as often as it is met; a slice's spare places count too). A statement '..UptoSaid' is the law's where the arguments, and the package variables that the reading takes, are together of bulk at most 1048576: NARROWER than '..Said'. Prove '..Said' where nothing that the law and all that it calls make is longer than what came in: it says more and counts as full. Else prove '..UptoSaid'. A law counts once. -/
mutual
def uptoBulk {H : Type} : DataW H → Nat
  | .lit (.string bytes) => bytes.length + 1
  | .lit _ => 1
  | .nil => 1
  | .ptr d => uptoBulk d + 1
  | .slice elems spare => uptoBulkAll elems + uptoBulkAll spare + 1
  | .agg parts => uptoBulkAll parts + 1
  | .iface _ d => uptoBulk d + 1
  | .map entries => uptoBulkEntries entries + 1
  | .held _ => 1
def uptoBulkAll {H : Type} : List (DataW H) → Nat
  | [] => 0
  | d :: r => uptoBulk d + uptoBulkAll r
def uptoBulkEntries {H : Type} : List (Lit × DataW H) → Nat
  | [] => 0
  | x :: r => uptoBulkEntry x + uptoBulkEntries r
def uptoBulkEntry {H : Type} : Lit × DataW H → Nat
  | (.string bytes, d) => bytes.length + uptoBulk d + 1
  | (_, d) => uptoBulk d + 1
 end
def uptoSmall : (H : Type) → List (DataW H) → Bool := fun _ ds => decide (uptoBulkAll ds ≤ 1048576)
def OpenSpec.upto (s : _root_.Go.ChangeSpec) : _root_.Go.OpenSpec := { _root_.Go.OpenSpec.ofChange s with cond := some uptoSmall }

/-- 'millstreamlaw20.LedgerActs', WHERE WHAT IT READS IS OF BULK AT MOST 1048576: true; the input reads as it did. -/
def ledgerActsUptoRow : OpenClaim := { program := "ytlgoincnopfnjaa", sum := "711e703d93a886fb557a1ee183dec8d18660f3a3ae05b4f7714b373cebd31a37", func := "millstream/millstreamlaw20.LedgerActs", spec := "ledgerActs", apart := false, narrowed := true }
def LedgerActsUptoSaid : Prop := ledgerActsUptoRow.holds Try.pinned (OpenSpec.upto ledgerActsSpec)

/-- 'millstreamlaw20.LedgerNew', WHERE WHAT IT READS IS OF BULK AT MOST 1048576: true; the input reads as it did. -/
def ledgerNewUptoRow : OpenClaim := { program := "ytlgoincnopfnjaa", sum := "711e703d93a886fb557a1ee183dec8d18660f3a3ae05b4f7714b373cebd31a37", func := "millstream/millstreamlaw20.LedgerNew", spec := "ledgerNew", apart := false, narrowed := true }
def LedgerNewUptoSaid : Prop := ledgerNewUptoRow.holds Try.pinned (OpenSpec.upto ledgerNewSpec)

/-- 'millstreamlaw20.LedgerKeeps', WHERE WHAT IT READS IS OF BULK AT MOST 1048576: true; the input reads as it did. -/
def ledgerKeepsUptoRow : OpenClaim := { program := "ytlgoincnopfnjaa", sum := "711e703d93a886fb557a1ee183dec8d18660f3a3ae05b4f7714b373cebd31a37", func := "millstream/millstreamlaw20.LedgerKeeps", spec := "ledgerKeeps", apart := false, narrowed := true }
def LedgerKeepsUptoSaid : Prop := ledgerKeepsUptoRow.holds Try.pinned (OpenSpec.upto ledgerKeepsSpec)

/-- 'millstreamlaw20.LedgerApart', WHERE WHAT IT READS IS OF BULK AT MOST 1048576: true; the input reads as it did. -/
def ledgerApartUptoRow : OpenClaim := { program := "ytlgoincnopfnjaa", sum := "711e703d93a886fb557a1ee183dec8d18660f3a3ae05b4f7714b373cebd31a37", func := "millstream/millstreamlaw20.LedgerApart", spec := "ledgerApart", apart := false, narrowed := true }
def LedgerApartUptoSaid : Prop := ledgerApartUptoRow.holds Try.pinned (OpenSpec.upto ledgerApartSpec)

/-- 'millstreamlaw20.LedgerBoth', WHERE WHAT IT READS IS OF BULK AT MOST 1048576: true; the input reads as it did. -/
def ledgerBothUptoRow : OpenClaim := { program := "ytlgoincnopfnjaa", sum := "711e703d93a886fb557a1ee183dec8d18660f3a3ae05b4f7714b373cebd31a37", func := "millstream/millstreamlaw20.LedgerBoth", spec := "ledgerBoth", apart := false, narrowed := true }
def LedgerBothUptoSaid : Prop := ledgerBothUptoRow.holds Try.pinned (OpenSpec.upto ledgerBothSpec)

/-- 'millstreamlaw20.LedgerBack', WHERE WHAT IT READS IS OF BULK AT MOST 1048576: true; the input reads as it did. -/
def ledgerBackUptoRow : OpenClaim := { program := "ytlgoincnopfnjaa", sum := "711e703d93a886fb557a1ee183dec8d18660f3a3ae05b4f7714b373cebd31a37", func := "millstream/millstreamlaw20.LedgerBack", spec := "ledgerBack", apart := false, narrowed := true }
def LedgerBackUptoSaid : Prop := ledgerBackUptoRow.holds Try.pinned (OpenSpec.upto ledgerBackSpec)

/-- 'millstreamlaw20.LedgerNever', WHERE WHAT IT READS IS OF BULK AT MOST 1048576: true; the input reads as it did. -/
def ledgerNeverUptoRow : OpenClaim := { program := "ytlgoincnopfnjaa", sum := "711e703d93a886fb557a1ee183dec8d18660f3a3ae05b4f7714b373cebd31a37", func := "millstream/millstreamlaw20.LedgerNever", spec := "ledgerNever", apart := false, narrowed := true }
def LedgerNeverUptoSaid : Prop := ledgerNeverUptoRow.holds Try.pinned (OpenSpec.upto ledgerNeverSpec)

end Rows
end Go.Proofs.Ytlgoincnopfnjaa
