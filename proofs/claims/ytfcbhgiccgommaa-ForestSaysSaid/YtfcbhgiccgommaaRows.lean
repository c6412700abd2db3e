/-
  No cell of these rows narrows 'for every input' (looked for: loops, veiled, ifaces, maps, wideKeys, modest, calm, conditions, laid).
  DERIVED. THE GIVEN ROWS OF THIS SEAT. 5 by the template 'for every input the law returns true; each argument reads behind the call as it read before'; 0 by the template 'total and deterministic' (their statements: YtfcbhgiccgommaaTotals.lean).
  GIVEN WITH THE SEED: the statements are not yours to turn. If you find one false, say at which input.
  Laid BY PROGRAM, IN A SANDBOX (cutbox-rows.mjs): the forced cells as the released guide's own fill.sh prints them over the translation 6b446fb24bb1ccb5… (all of the seat's roots in one cut). By AI agents, Wed Nov 11 2026. No macro, syntax, notation, axiom, sorry.
-/
import Derived.Test.YtfcbhgiccgommaaChecked
import GoSem.Claim
import GoSem.ClaimJoined
import GoSem.ClaimMapViews
import Derived.JoinedTies
import Derived.KernelRfl
namespace Go.Proofs.Ytfcbhgiccgommaa
/- THE CELL 'sum', in the pinned program and in every row, IS THE sha256 OF THE DUMP (.gsa) THAT YtfcbhgiccgommaaProg.lean LOADS. Nothing in Lean hashes anything: it is a label: what it is worth is what the hold of that sum in a sandbox is worth. -/
noncomputable def Try.pinned : Pinned := { name := "ytfcbhgiccgommaa", sum := "6b446fb24bb1ccb5cbb9f85fe02af8941eccb9b45f7b59acabf966d95de241d3", checked := Try.checked }
namespace Rows
def none {H : Type} : Left H := { results := [], args := [] }

/-- 'reevelaw10.ForestDepths': WHATEVER THE INPUT: true; the input reads as it did. -/
def forestDepthsSpec : ChangeSpec := { name := "forestDepths", fn := fun _ => fun
  | [d] => { results := [.lit (.bool true)], args := [d] }
  | _ => none }
def forestDepthsRow : OpenClaim := { program := "ytfcbhgiccgommaa", sum := "6b446fb24bb1ccb5cbb9f85fe02af8941eccb9b45f7b59acabf966d95de241d3", func := "reeve/reevelaw10.ForestDepths", spec := "forestDepths", recurses := true, apart := false }
def ForestDepthsSaid : Prop := forestDepthsRow.holds Try.pinned (OpenSpec.ofChange forestDepthsSpec)

/-- ITS FALSE NEIGHBOUR: 'it returns false'. Refute it at one input. -/
def forestDepthsWrong : ChangeSpec := { name := "forestDepths", fn := fun _ => fun
  | [d] => { results := [.lit (.bool false)], args := [d] }
  | _ => none }
def ForestDepthsWrongFalsely : Prop := forestDepthsRow.holds Try.pinned (OpenSpec.ofChange forestDepthsWrong)

/-- 'reevelaw10.ForestCuts': WHATEVER THE INPUT: true; the input reads as it did. -/
def forestCutsSpec : ChangeSpec := { name := "forestCuts", fn := fun _ => fun
  | [d1, d2] => { results := [.lit (.bool true)], args := [d1, d2] }
  | _ => none }
def forestCutsRow : OpenClaim := { program := "ytfcbhgiccgommaa", sum := "6b446fb24bb1ccb5cbb9f85fe02af8941eccb9b45f7b59acabf966d95de241d3", func := "reeve/reevelaw10.ForestCuts", spec := "forestCuts", recurses := true, apart := false }
def ForestCutsSaid : Prop := forestCutsRow.holds Try.pinned (OpenSpec.ofChange forestCutsSpec)

/-- ITS FALSE NEIGHBOUR: 'it returns false'. Refute it at one input. -/
def forestCutsWrong : ChangeSpec := { name := "forestCuts", fn := fun _ => fun
  | [d1, d2] => { results := [.lit (.bool false)], args := [d1, d2] }
  | _ => none }
def ForestCutsWrongFalsely : Prop := forestCutsRow.holds Try.pinned (OpenSpec.ofChange forestCutsWrong)

/-- 'reevelaw10.ForestGrows': WHATEVER THE INPUT: true; the input reads as it did. -/
def forestGrowsSpec : ChangeSpec := { name := "forestGrows", fn := fun _ => fun
  | [d1, d2, d3] => { results := [.lit (.bool true)], args := [d1, d2, d3] }
  | _ => none }
def forestGrowsRow : OpenClaim := { program := "ytfcbhgiccgommaa", sum := "6b446fb24bb1ccb5cbb9f85fe02af8941eccb9b45f7b59acabf966d95de241d3", func := "reeve/reevelaw10.ForestGrows", spec := "forestGrows", recurses := true, apart := false }
def ForestGrowsSaid : Prop := forestGrowsRow.holds Try.pinned (OpenSpec.ofChange forestGrowsSpec)

/-- ITS FALSE NEIGHBOUR: 'it returns false'. Refute it at one input. -/
def forestGrowsWrong : ChangeSpec := { name := "forestGrows", fn := fun _ => fun
  | [d1, d2, d3] => { results := [.lit (.bool false)], args := [d1, d2, d3] }
  | _ => none }
def ForestGrowsWrongFalsely : Prop := forestGrowsRow.holds Try.pinned (OpenSpec.ofChange forestGrowsWrong)

/-- 'reevelaw10.ForestKnown': WHATEVER THE INPUT: true; the input reads as it did. -/
def forestKnownSpec : ChangeSpec := { name := "forestKnown", fn := fun _ => fun
  | [] => { results := [.lit (.bool true)], args := [] }
  | _ => none }
def forestKnownRow : OpenClaim := { program := "ytfcbhgiccgommaa", sum := "6b446fb24bb1ccb5cbb9f85fe02af8941eccb9b45f7b59acabf966d95de241d3", func := "reeve/reevelaw10.ForestKnown", spec := "forestKnown", recurses := true, apart := false }
def ForestKnownSaid : Prop := forestKnownRow.holds Try.pinned (OpenSpec.ofChange forestKnownSpec)

/-- ITS FALSE NEIGHBOUR: 'it returns false'. Refute it at one input. -/
def forestKnownWrong : ChangeSpec := { name := "forestKnown", fn := fun _ => fun
  | [] => { results := [.lit (.bool false)], args := [] }
  | _ => none }
def ForestKnownWrongFalsely : Prop := forestKnownRow.holds Try.pinned (OpenSpec.ofChange forestKnownWrong)

/-- 'reevelaw10.ForestSays': WHATEVER THE INPUT: true; the input reads as it did. -/
def forestSaysSpec : ChangeSpec := { name := "forestSays", fn := fun _ => fun
  | [d1, d2, d3] => { results := [.lit (.bool true)], args := [d1, d2, d3] }
  | _ => none }
def forestSaysRow : OpenClaim := { program := "ytfcbhgiccgommaa", sum := "6b446fb24bb1ccb5cbb9f85fe02af8941eccb9b45f7b59acabf966d95de241d3", func := "reeve/reevelaw10.ForestSays", spec := "forestSays", recurses := true, apart := false }
def ForestSaysSaid : Prop := forestSaysRow.holds Try.pinned (OpenSpec.ofChange forestSaysSpec)

/-- ITS FALSE NEIGHBOUR: 'it returns false'. Refute it at one input. -/
def forestSaysWrong : ChangeSpec := { name := "forestSays", fn := fun _ => fun
  | [d1, d2, d3] => { results := [.lit (.bool false)], args := [d1, d2, d3] }
  | _ => none }
def ForestSaysWrongFalsely : Prop := forestSaysRow.holds Try.pinned (OpenSpec.ofChange forestSaysWrong)

/- THE SECOND FORM. 'bulk': how many values and letters a reading holds, each counted each time it is reached (what is shared counts as often as it is met; a slice's spare places count too). A statement '..UptoSaid' is the law's where the arguments, and the package variables that the reading takes, are together of bulk at most 1048576: NARROWER than '..Said'. Prove '..Said' where nothing that the law and all that it calls make is longer than what came in: it says more and counts as full. Else prove '..UptoSaid'. A law counts once. -/
mutual
def uptoBulk {H : Type} : DataW H → Nat
  | .lit (.string bytes) => bytes.length + 1
  | .lit _ => 1
  | .nil => 1
  | .ptr d => uptoBulk d + 1
  | .slice elems spare => uptoBulkAll elems + uptoBulkAll spare + 1
  | .agg parts => uptoBulkAll parts + 1
  | .iface _ d => uptoBulk d + 1
  | .map entries => uptoBulkEntries entries + 1
  | .held _ => 1
def uptoBulkAll {H : Type} : List (DataW H) → Nat
  | [] => 0
  | d :: r => uptoBulk d + uptoBulkAll r
def uptoBulkEntries {H : Type} : List (Lit × DataW H) → Nat
  | [] => 0
  | x :: r => uptoBulkEntry x + uptoBulkEntries r
def uptoBulkEntry {H : Type} : Lit × DataW H → Nat
  | (.string bytes, d) => bytes.length + uptoBulk d + 1
  | (_, d) => uptoBulk d + 1
 end
def uptoSmall : (H : Type) → List (DataW H) → Bool := fun _ ds => decide (uptoBulkAll ds ≤ 1048576)
def OpenSpec.upto (s : _root_.Go.ChangeSpec) : _root_.Go.OpenSpec := { _root_.Go.OpenSpec.ofChange s with cond := some uptoSmall }

/-- 'reevelaw10.ForestDepths', WHERE WHAT IT READS IS OF BULK AT MOST 1048576: true; the input reads as it did. -/
def forestDepthsUptoRow : OpenClaim := { program := "ytfcbhgiccgommaa", sum := "6b446fb24bb1ccb5cbb9f85fe02af8941eccb9b45f7b59acabf966d95de241d3", func := "reeve/reevelaw10.ForestDepths", spec := "forestDepths", recurses := true, apart := false, narrowed := true }
def ForestDepthsUptoSaid : Prop := forestDepthsUptoRow.holds Try.pinned (OpenSpec.upto forestDepthsSpec)

/-- 'reevelaw10.ForestCuts', WHERE WHAT IT READS IS OF BULK AT MOST 1048576: true; the input reads as it did. -/
def forestCutsUptoRow : OpenClaim := { program := "ytfcbhgiccgommaa", sum := "6b446fb24bb1ccb5cbb9f85fe02af8941eccb9b45f7b59acabf966d95de241d3", func := "reeve/reevelaw10.ForestCuts", spec := "forestCuts", recurses := true, apart := false, narrowed := true }
def ForestCutsUptoSaid : Prop := forestCutsUptoRow.holds Try.pinned (OpenSpec.upto forestCutsSpec)

/-- 'reevelaw10.ForestGrows', WHERE WHAT IT READS IS OF BULK AT MOST 1048576: true; the input reads as it did. -/
def forestGrowsUptoRow : OpenClaim := { program := "ytfcbhgiccgommaa", sum := "6b446fb24bb1ccb5cbb9f85fe02af8941eccb9b45f7b59acabf966d95de241d3", func := "reeve/reevelaw10.ForestGrows", spec := "forestGrows", recurses := true, apart := false, narrowed := true }
def ForestGrowsUptoSaid : Prop := forestGrowsUptoRow.holds Try.pinned (OpenSpec.upto forestGrowsSpec)

/-- 'reevelaw10.ForestKnown', WHERE WHAT IT READS IS OF BULK AT MOST 1048576: true; the input reads as it did. -/
def forestKnownUptoRow : OpenClaim := { program := "ytfcbhgiccgommaa", sum := "6b446fb24bb1ccb5cbb9f85fe02af8941eccb9b45f7b59acabf966d95de241d3", func := "reeve/reevelaw10.ForestKnown", spec := "forestKnown", recurses := true, apart := false, narrowed := true }
def ForestKnownUptoSaid : Prop := forestKnownUptoRow.holds Try.pinned (OpenSpec.upto forestKnownSpec)

/-- 'reevelaw10.ForestSays', WHERE WHAT IT READS IS OF BULK AT MOST 1048576: true; the input reads as it did. -/
def forestSaysUptoRow : OpenClaim := { program := "ytfcbhgiccgommaa", sum := "6b446fb24bb1ccb5cbb9f85fe02af8941eccb9b45f7b59acabf966d95de241d3", func := "reeve/reevelaw10.ForestSays", spec := "forestSays", recurses := true, apart := false, narrowed := true }
def ForestSaysUptoSaid : Prop := forestSaysUptoRow.holds Try.pinned (OpenSpec.upto forestSaysSpec)

end Rows
end Go.Proofs.Ytfcbhgiccgommaa
