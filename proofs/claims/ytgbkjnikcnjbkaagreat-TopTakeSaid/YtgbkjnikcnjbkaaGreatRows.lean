/-
  No cell of these rows narrows 'for every input' (looked for: loops, veiled, ifaces, maps, wideKeys, modest, calm, conditions, laid).
  DERIVED. THE GIVEN ROWS OF THIS SEAT. 5 by the template 'for every input the law returns true; each argument reads behind the call as it read before'; 0 by the template 'total and deterministic' (their statements: YtgbkjnikcnjbkaaGreatTotals.lean).
  GIVEN WITH THE SEED: the statements are not yours to turn. If you find one false, say at which input.
  Laid BY PROGRAM, IN A SANDBOX (cutbox-rows.mjs): the forced cells as the released guide's own fill.sh prints them over the translation 7c78ee5dcc313e22… (all of the seat's roots in one cut). By AI agents, Wed Nov 11 2026. No macro, syntax, notation, axiom, sorry.
-/
import Derived.Test.YtgbkjnikcnjbkaaGreatChecked
import GoSem.Claim
import GoSem.ClaimJoined
import GoSem.ClaimMapViews
import Derived.JoinedTies
import Derived.KernelRfl
namespace Go.Proofs.YtgbkjnikcnjbkaaGreat
/- THE CELL 'sum', in the pinned program and in every row, IS THE sha256 OF THE DUMP (.gsa) THAT YtgbkjnikcnjbkaaGreatProg.lean LOADS. Nothing in Lean hashes anything: it is a label: what it is worth is what the hold of that sum in a sandbox is worth. -/
noncomputable def Tryz.pinned : Pinned := { name := "ytgbkjnikcnjbkaagreat", sum := "7c78ee5dcc313e22bb7fa2134c75fa10eda80242ef42260bbccc9c65a7fa7dc8", checked := Tryz.checked }
namespace Rows
def none {H : Type} : Left H := { results := [], args := [] }

/-- 'millstreamtop.TopMax': WHATEVER THE INPUT: true; the input reads as it did. -/
def topMaxSpec : ChangeSpec := { name := "topMax", fn := fun _ => fun
  | [d1, d2, d3] => { results := [.lit (.bool true)], args := [d1, d2, d3] }
  | _ => none }
def topMaxRow : OpenClaim := { program := "ytgbkjnikcnjbkaagreat", sum := "7c78ee5dcc313e22bb7fa2134c75fa10eda80242ef42260bbccc9c65a7fa7dc8", func := "millstream/millstreamtop.TopMax", spec := "topMax", unfollowed := true, recurses := true, apart := false }
def TopMaxSaid : Prop := topMaxRow.holds Tryz.pinned (OpenSpec.ofChange topMaxSpec)

/-- ITS FALSE NEIGHBOUR: 'it returns false'. Refute it at one input. -/
def topMaxWrong : ChangeSpec := { name := "topMax", fn := fun _ => fun
  | [d1, d2, d3] => { results := [.lit (.bool false)], args := [d1, d2, d3] }
  | _ => none }
def TopMaxWrongFalsely : Prop := topMaxRow.holds Tryz.pinned (OpenSpec.ofChange topMaxWrong)

/-- 'millstreamtop.TopSwaps': WHATEVER THE INPUT: true; the input reads as it did. -/
def topSwapsSpec : ChangeSpec := { name := "topSwaps", fn := fun _ => fun
  | [d1, d2, d3] => { results := [.lit (.bool true)], args := [d1, d2, d3] }
  | _ => none }
def topSwapsRow : OpenClaim := { program := "ytgbkjnikcnjbkaagreat", sum := "7c78ee5dcc313e22bb7fa2134c75fa10eda80242ef42260bbccc9c65a7fa7dc8", func := "millstream/millstreamtop.TopSwaps", spec := "topSwaps", unfollowed := true, recurses := true, apart := false }
def TopSwapsSaid : Prop := topSwapsRow.holds Tryz.pinned (OpenSpec.ofChange topSwapsSpec)

/-- ITS FALSE NEIGHBOUR: 'it returns false'. Refute it at one input. -/
def topSwapsWrong : ChangeSpec := { name := "topSwaps", fn := fun _ => fun
  | [d1, d2, d3] => { results := [.lit (.bool false)], args := [d1, d2, d3] }
  | _ => none }
def TopSwapsWrongFalsely : Prop := topSwapsRow.holds Tryz.pinned (OpenSpec.ofChange topSwapsWrong)

/-- 'millstreamtop.TopTake': WHATEVER THE INPUT: true; the input reads as it did. -/
def topTakeSpec : ChangeSpec := { name := "topTake", fn := fun _ => fun
  | [d1, d2, d3] => { results := [.lit (.bool true)], args := [d1, d2, d3] }
  | _ => none }
def topTakeRow : OpenClaim := { program := "ytgbkjnikcnjbkaagreat", sum := "7c78ee5dcc313e22bb7fa2134c75fa10eda80242ef42260bbccc9c65a7fa7dc8", func := "millstream/millstreamtop.TopTake", spec := "topTake", unfollowed := true, recurses := true, apart := false }
def TopTakeSaid : Prop := topTakeRow.holds Tryz.pinned (OpenSpec.ofChange topTakeSpec)

/-- ITS FALSE NEIGHBOUR: 'it returns false'. Refute it at one input. -/
def topTakeWrong : ChangeSpec := { name := "topTake", fn := fun _ => fun
  | [d1, d2, d3] => { results := [.lit (.bool false)], args := [d1, d2, d3] }
  | _ => none }
def TopTakeWrongFalsely : Prop := topTakeRow.holds Tryz.pinned (OpenSpec.ofChange topTakeWrong)

/-- 'millstreamtop.TopFloor': WHATEVER THE INPUT: true; the input reads as it did. -/
def topFloorSpec : ChangeSpec := { name := "topFloor", fn := fun _ => fun
  | [d1, d2] => { results := [.lit (.bool true)], args := [d1, d2] }
  | _ => none }
def topFloorRow : OpenClaim := { program := "ytgbkjnikcnjbkaagreat", sum := "7c78ee5dcc313e22bb7fa2134c75fa10eda80242ef42260bbccc9c65a7fa7dc8", func := "millstream/millstreamtop.TopFloor", spec := "topFloor", unfollowed := true, recurses := true, apart := false }
def TopFloorSaid : Prop := topFloorRow.holds Tryz.pinned (OpenSpec.ofChange topFloorSpec)

/-- ITS FALSE NEIGHBOUR: 'it returns false'. Refute it at one input. -/
def topFloorWrong : ChangeSpec := { name := "topFloor", fn := fun _ => fun
  | [d1, d2] => { results := [.lit (.bool false)], args := [d1, d2] }
  | _ => none }
def TopFloorWrongFalsely : Prop := topFloorRow.holds Tryz.pinned (OpenSpec.ofChange topFloorWrong)

/-- 'millstreamtop.TopOrder': WHATEVER THE INPUT: true; the input reads as it did. -/
def topOrderSpec : ChangeSpec := { name := "topOrder", fn := fun _ => fun
  | [d1, d2, d3] => { results := [.lit (.bool true)], args := [d1, d2, d3] }
  | _ => none }
def topOrderRow : OpenClaim := { program := "ytgbkjnikcnjbkaagreat", sum := "7c78ee5dcc313e22bb7fa2134c75fa10eda80242ef42260bbccc9c65a7fa7dc8", func := "millstream/millstreamtop.TopOrder", spec := "topOrder", unfollowed := true, recurses := true, apart := false }
def TopOrderSaid : Prop := topOrderRow.holds Tryz.pinned (OpenSpec.ofChange topOrderSpec)

/-- ITS FALSE NEIGHBOUR: 'it returns false'. Refute it at one input. -/
def topOrderWrong : ChangeSpec := { name := "topOrder", fn := fun _ => fun
  | [d1, d2, d3] => { results := [.lit (.bool false)], args := [d1, d2, d3] }
  | _ => none }
def TopOrderWrongFalsely : Prop := topOrderRow.holds Tryz.pinned (OpenSpec.ofChange topOrderWrong)

/- THE SECOND FORM. 'bulk': how many values and letters a reading holds, each counted each time it is reached (what is shared counts as often as it is met; a slice's spare places count too). A statement '..UptoSaid' is the law's where the arguments, and the package variables that the reading takes, are together of bulk at most 1048576: NARROWER than '..Said'. Prove '..Said' where nothing that the law and all that it calls make is longer than what came in: it says more and counts as full. Else prove '..UptoSaid'. A law counts once. -/
mutual
def uptoBulk {H : Type} : DataW H → Nat
  | .lit (.string bytes) => bytes.length + 1
  | .lit _ => 1
  | .nil => 1
  | .ptr d => uptoBulk d + 1
  | .slice elems spare => uptoBulkAll elems + uptoBulkAll spare + 1
  | .agg parts => uptoBulkAll parts + 1
  | .iface _ d => uptoBulk d + 1
  | .map entries => uptoBulkEntries entries + 1
  | .held _ => 1
def uptoBulkAll {H : Type} : List (DataW H) → Nat
  | [] => 0
  | d :: r => uptoBulk d + uptoBulkAll r
def uptoBulkEntries {H : Type} : List (Lit × DataW H) → Nat
  | [] => 0
  | x :: r => uptoBulkEntry x + uptoBulkEntries r
def uptoBulkEntry {H : Type} : Lit × DataW H → Nat
  | (.string bytes, d) => bytes.length + uptoBulk d + 1
  | (_, d) => uptoBulk d + 1
 end
def uptoSmall : (H : Type) → List (DataW H) → Bool := fun _ ds => decide (uptoBulkAll ds ≤ 1048576)
def OpenSpec.upto (s : _root_.Go.ChangeSpec) : _root_.Go.OpenSpec := { _root_.Go.OpenSpec.ofChange s with cond := some uptoSmall }

/-- 'millstreamtop.TopMax', WHERE WHAT IT READS IS OF BULK AT MOST 1048576: true; the input reads as it did. -/
def topMaxUptoRow : OpenClaim := { program := "ytgbkjnikcnjbkaagreat", sum := "7c78ee5dcc313e22bb7fa2134c75fa10eda80242ef42260bbccc9c65a7fa7dc8", func := "millstream/millstreamtop.TopMax", spec := "topMax", unfollowed := true, recurses := true, apart := false, narrowed := true }
def TopMaxUptoSaid : Prop := topMaxUptoRow.holds Tryz.pinned (OpenSpec.upto topMaxSpec)

/-- 'millstreamtop.TopSwaps', WHERE WHAT IT READS IS OF BULK AT MOST 1048576: true; the input reads as it did. -/
def topSwapsUptoRow : OpenClaim := { program := "ytgbkjnikcnjbkaagreat", sum := "7c78ee5dcc313e22bb7fa2134c75fa10eda80242ef42260bbccc9c65a7fa7dc8", func := "millstream/millstreamtop.TopSwaps", spec := "topSwaps", unfollowed := true, recurses := true, apart := false, narrowed := true }
def TopSwapsUptoSaid : Prop := topSwapsUptoRow.holds Tryz.pinned (OpenSpec.upto topSwapsSpec)

/-- 'millstreamtop.TopTake', WHERE WHAT IT READS IS OF BULK AT MOST 1048576: true; the input reads as it did. -/
def topTakeUptoRow : OpenClaim := { program := "ytgbkjnikcnjbkaagreat", sum := "7c78ee5dcc313e22bb7fa2134c75fa10eda80242ef42260bbccc9c65a7fa7dc8", func := "millstream/millstreamtop.TopTake", spec := "topTake", unfollowed := true, recurses := true, apart := false, narrowed := true }
def TopTakeUptoSaid : Prop := topTakeUptoRow.holds Tryz.pinned (OpenSpec.upto topTakeSpec)

/-- 'millstreamtop.TopFloor', WHERE WHAT IT READS IS OF BULK AT MOST 1048576: true; the input reads as it did. -/
def topFloorUptoRow : OpenClaim := { program := "ytgbkjnikcnjbkaagreat", sum := "7c78ee5dcc313e22bb7fa2134c75fa10eda80242ef42260bbccc9c65a7fa7dc8", func := "millstream/millstreamtop.TopFloor", spec := "topFloor", unfollowed := true, recurses := true, apart := false, narrowed := true }
def TopFloorUptoSaid : Prop := topFloorUptoRow.holds Tryz.pinned (OpenSpec.upto topFloorSpec)

/-- 'millstreamtop.TopOrder', WHERE WHAT IT READS IS OF BULK AT MOST 1048576: true; the input reads as it did. -/
def topOrderUptoRow : OpenClaim := { program := "ytgbkjnikcnjbkaagreat", sum := "7c78ee5dcc313e22bb7fa2134c75fa10eda80242ef42260bbccc9c65a7fa7dc8", func := "millstream/millstreamtop.TopOrder", spec := "topOrder", unfollowed := true, recurses := true, apart := false, narrowed := true }
def TopOrderUptoSaid : Prop := topOrderUptoRow.holds Tryz.pinned (OpenSpec.upto topOrderSpec)

end Rows
end Go.Proofs.YtgbkjnikcnjbkaaGreat
