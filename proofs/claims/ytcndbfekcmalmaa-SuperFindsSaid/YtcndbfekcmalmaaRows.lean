/-
  No cell of these rows narrows 'for every input' (looked for: loops, veiled, ifaces, maps, wideKeys, modest, calm, conditions, laid).
  DERIVED. THE GIVEN ROWS OF THIS SEAT. 11 by the template 'for every input the law returns true; each argument reads behind the call as it read before'; 0 by the template 'total and deterministic' (their statements: YtcndbfekcmalmaaTotals.lean).
  GIVEN WITH THE SEED: the statements are not yours to turn. If you find one false, say at which input.
  Laid BY PROGRAM, IN A SANDBOX (cutbox-rows.mjs): the forced cells as the released guide's own fill.sh prints them over the translation aae766fcc5bf095c… (all of the seat's roots in one cut). By AI agents, Wed Nov 11 2026. No macro, syntax, notation, axiom, sorry.
-/
import Derived.Test.YtcndbfekcmalmaaChecked
import GoSem.Claim
import GoSem.ClaimJoined
import GoSem.ClaimMapViews
import Derived.JoinedTies
import Derived.KernelRfl
namespace Go.Proofs.Ytcndbfekcmalmaa
/- THE CELL 'sum', in the pinned program and in every row, IS THE sha256 OF THE DUMP (.gsa) THAT YtcndbfekcmalmaaProg.lean LOADS. Nothing in Lean hashes anything: it is a label: what it is worth is what the hold of that sum in a sandbox is worth. -/
noncomputable def Try.pinned : Pinned := { name := "ytcndbfekcmalmaa", sum := "aae766fcc5bf095cc8d6958ba91a93ad059632b48214a3183e0e26f2b65d05c6", checked := Try.checked }
namespace Rows
def none {H : Type} : Left H := { results := [], args := [] }

/-- 'reevelaw1.GaussTurns': WHATEVER THE INPUT: true; the input reads as it did. -/
def gaussTurnsSpec : ChangeSpec := { name := "gaussTurns", fn := fun _ => fun
  | [d1, d2, d3, d4] => { results := [.lit (.bool true)], args := [d1, d2, d3, d4] }
  | _ => none }
def gaussTurnsRow : OpenClaim := { program := "ytcndbfekcmalmaa", sum := "aae766fcc5bf095cc8d6958ba91a93ad059632b48214a3183e0e26f2b65d05c6", func := "reeve/reevelaw1.GaussTurns", spec := "gaussTurns", inPlace := ["math.archTrunc", "math.Float64bits", "math.Float64frombits"], apart := false }
def GaussTurnsSaid : Prop := gaussTurnsRow.holds Try.pinned (OpenSpec.ofChange gaussTurnsSpec)

/-- ITS FALSE NEIGHBOUR: 'it returns false'. Refute it at one input. -/
def gaussTurnsWrong : ChangeSpec := { name := "gaussTurns", fn := fun _ => fun
  | [d1, d2, d3, d4] => { results := [.lit (.bool false)], args := [d1, d2, d3, d4] }
  | _ => none }
def GaussTurnsWrongFalsely : Prop := gaussTurnsRow.holds Try.pinned (OpenSpec.ofChange gaussTurnsWrong)

/-- 'reevelaw1.GaussSpins': WHATEVER THE INPUT: true; the input reads as it did. -/
def gaussSpinsSpec : ChangeSpec := { name := "gaussSpins", fn := fun _ => fun
  | [d1, d2, d3, d4] => { results := [.lit (.bool true)], args := [d1, d2, d3, d4] }
  | _ => none }
def gaussSpinsRow : OpenClaim := { program := "ytcndbfekcmalmaa", sum := "aae766fcc5bf095cc8d6958ba91a93ad059632b48214a3183e0e26f2b65d05c6", func := "reeve/reevelaw1.GaussSpins", spec := "gaussSpins", inPlace := ["math.archTrunc", "math.Float64bits", "math.Float64frombits"], apart := false }
def GaussSpinsSaid : Prop := gaussSpinsRow.holds Try.pinned (OpenSpec.ofChange gaussSpinsSpec)

/-- ITS FALSE NEIGHBOUR: 'it returns false'. Refute it at one input. -/
def gaussSpinsWrong : ChangeSpec := { name := "gaussSpins", fn := fun _ => fun
  | [d1, d2, d3, d4] => { results := [.lit (.bool false)], args := [d1, d2, d3, d4] }
  | _ => none }
def GaussSpinsWrongFalsely : Prop := gaussSpinsRow.holds Try.pinned (OpenSpec.ofChange gaussSpinsWrong)

/-- 'reevelaw1.GaussLong': WHATEVER THE INPUT: true; the input reads as it did. -/
def gaussLongSpec : ChangeSpec := { name := "gaussLong", fn := fun _ => fun
  | [d1, d2] => { results := [.lit (.bool true)], args := [d1, d2] }
  | _ => none }
def gaussLongRow : OpenClaim := { program := "ytcndbfekcmalmaa", sum := "aae766fcc5bf095cc8d6958ba91a93ad059632b48214a3183e0e26f2b65d05c6", func := "reeve/reevelaw1.GaussLong", spec := "gaussLong", inPlace := ["math.archTrunc", "math.Float64bits", "math.Float64frombits"], apart := false }
def GaussLongSaid : Prop := gaussLongRow.holds Try.pinned (OpenSpec.ofChange gaussLongSpec)

/-- ITS FALSE NEIGHBOUR: 'it returns false'. Refute it at one input. -/
def gaussLongWrong : ChangeSpec := { name := "gaussLong", fn := fun _ => fun
  | [d1, d2] => { results := [.lit (.bool false)], args := [d1, d2] }
  | _ => none }
def GaussLongWrongFalsely : Prop := gaussLongRow.holds Try.pinned (OpenSpec.ofChange gaussLongWrong)

/-- 'reevelaw1.GaussWords': WHATEVER THE INPUT: true; the input reads as it did. -/
def gaussWordsSpec : ChangeSpec := { name := "gaussWords", fn := fun _ => fun
  | [d1, d2] => { results := [.lit (.bool true)], args := [d1, d2] }
  | _ => none }
def gaussWordsRow : OpenClaim := { program := "ytcndbfekcmalmaa", sum := "aae766fcc5bf095cc8d6958ba91a93ad059632b48214a3183e0e26f2b65d05c6", func := "reeve/reevelaw1.GaussWords", spec := "gaussWords", inPlace := ["math.archTrunc", "math.Float64bits", "math.Float64frombits"], apart := false }
def GaussWordsSaid : Prop := gaussWordsRow.holds Try.pinned (OpenSpec.ofChange gaussWordsSpec)

/-- ITS FALSE NEIGHBOUR: 'it returns false'. Refute it at one input. -/
def gaussWordsWrong : ChangeSpec := { name := "gaussWords", fn := fun _ => fun
  | [d1, d2] => { results := [.lit (.bool false)], args := [d1, d2] }
  | _ => none }
def GaussWordsWrongFalsely : Prop := gaussWordsRow.holds Try.pinned (OpenSpec.ofChange gaussWordsWrong)

/-- 'reevelaw1.GaussRing': WHATEVER THE INPUT: true; the input reads as it did. -/
def gaussRingSpec : ChangeSpec := { name := "gaussRing", fn := fun _ => fun
  | [d1, d2, d3, d4, d5, d6] => { results := [.lit (.bool true)], args := [d1, d2, d3, d4, d5, d6] }
  | _ => none }
def gaussRingRow : OpenClaim := { program := "ytcndbfekcmalmaa", sum := "aae766fcc5bf095cc8d6958ba91a93ad059632b48214a3183e0e26f2b65d05c6", func := "reeve/reevelaw1.GaussRing", spec := "gaussRing", inPlace := ["math.archTrunc", "math.Float64bits", "math.Float64frombits"], apart := false }
def GaussRingSaid : Prop := gaussRingRow.holds Try.pinned (OpenSpec.ofChange gaussRingSpec)

/-- ITS FALSE NEIGHBOUR: 'it returns false'. Refute it at one input. -/
def gaussRingWrong : ChangeSpec := { name := "gaussRing", fn := fun _ => fun
  | [d1, d2, d3, d4, d5, d6] => { results := [.lit (.bool false)], args := [d1, d2, d3, d4, d5, d6] }
  | _ => none }
def GaussRingWrongFalsely : Prop := gaussRingRow.holds Try.pinned (OpenSpec.ofChange gaussRingWrong)

/-- 'reevelaw1.GaussKnown': WHATEVER THE INPUT: true; the input reads as it did. -/
def gaussKnownSpec : ChangeSpec := { name := "gaussKnown", fn := fun _ => fun
  | [] => { results := [.lit (.bool true)], args := [] }
  | _ => none }
def gaussKnownRow : OpenClaim := { program := "ytcndbfekcmalmaa", sum := "aae766fcc5bf095cc8d6958ba91a93ad059632b48214a3183e0e26f2b65d05c6", func := "reeve/reevelaw1.GaussKnown", spec := "gaussKnown", inPlace := ["math.archTrunc", "math.Float64bits", "math.Float64frombits"], apart := false }
def GaussKnownSaid : Prop := gaussKnownRow.holds Try.pinned (OpenSpec.ofChange gaussKnownSpec)

/-- ITS FALSE NEIGHBOUR: 'it returns false'. Refute it at one input. -/
def gaussKnownWrong : ChangeSpec := { name := "gaussKnown", fn := fun _ => fun
  | [] => { results := [.lit (.bool false)], args := [] }
  | _ => none }
def GaussKnownWrongFalsely : Prop := gaussKnownRow.holds Try.pinned (OpenSpec.ofChange gaussKnownWrong)

/-- 'reevelaw1.GaussSays': WHATEVER THE INPUT: true; the input reads as it did. -/
def gaussSaysSpec : ChangeSpec := { name := "gaussSays", fn := fun _ => fun
  | [d1, d2, d3, d4, d5, d6, d7, d8] => { results := [.lit (.bool true)], args := [d1, d2, d3, d4, d5, d6, d7, d8] }
  | _ => none }
def gaussSaysRow : OpenClaim := { program := "ytcndbfekcmalmaa", sum := "aae766fcc5bf095cc8d6958ba91a93ad059632b48214a3183e0e26f2b65d05c6", func := "reeve/reevelaw1.GaussSays", spec := "gaussSays", inPlace := ["math.archTrunc", "math.Float64bits", "math.Float64frombits"], apart := false }
def GaussSaysSaid : Prop := gaussSaysRow.holds Try.pinned (OpenSpec.ofChange gaussSaysSpec)

/-- ITS FALSE NEIGHBOUR: 'it returns false'. Refute it at one input. -/
def gaussSaysWrong : ChangeSpec := { name := "gaussSays", fn := fun _ => fun
  | [d1, d2, d3, d4, d5, d6, d7, d8] => { results := [.lit (.bool false)], args := [d1, d2, d3, d4, d5, d6, d7, d8] }
  | _ => none }
def GaussSaysWrongFalsely : Prop := gaussSaysRow.holds Try.pinned (OpenSpec.ofChange gaussSaysWrong)

/-- 'reevelaw6.SuperTurned': WHATEVER THE INPUT: true; the input reads as it did. -/
def superTurnedSpec : ChangeSpec := { name := "superTurned", fn := fun _ => fun
  | [d1, d2, d3, d4] => { results := [.lit (.bool true)], args := [d1, d2, d3, d4] }
  | _ => none }
def superTurnedRow : OpenClaim := { program := "ytcndbfekcmalmaa", sum := "aae766fcc5bf095cc8d6958ba91a93ad059632b48214a3183e0e26f2b65d05c6", func := "reeve/reevelaw6.SuperTurned", spec := "superTurned", inPlace := ["math.archTrunc", "math.Float64bits", "math.Float64frombits"], apart := false }
def SuperTurnedSaid : Prop := superTurnedRow.holds Try.pinned (OpenSpec.ofChange superTurnedSpec)

/-- ITS FALSE NEIGHBOUR: 'it returns false'. Refute it at one input. -/
def superTurnedWrong : ChangeSpec := { name := "superTurned", fn := fun _ => fun
  | [d1, d2, d3, d4] => { results := [.lit (.bool false)], args := [d1, d2, d3, d4] }
  | _ => none }
def SuperTurnedWrongFalsely : Prop := superTurnedRow.holds Try.pinned (OpenSpec.ofChange superTurnedWrong)

/-- 'reevelaw6.SuperKnown': WHATEVER THE INPUT: true; the input reads as it did. -/
def superKnownSpec : ChangeSpec := { name := "superKnown", fn := fun _ => fun
  | [] => { results := [.lit (.bool true)], args := [] }
  | _ => none }
def superKnownRow : OpenClaim := { program := "ytcndbfekcmalmaa", sum := "aae766fcc5bf095cc8d6958ba91a93ad059632b48214a3183e0e26f2b65d05c6", func := "reeve/reevelaw6.SuperKnown", spec := "superKnown", inPlace := ["math.archTrunc", "math.Float64bits", "math.Float64frombits"], apart := false }
def SuperKnownSaid : Prop := superKnownRow.holds Try.pinned (OpenSpec.ofChange superKnownSpec)

/-- ITS FALSE NEIGHBOUR: 'it returns false'. Refute it at one input. -/
def superKnownWrong : ChangeSpec := { name := "superKnown", fn := fun _ => fun
  | [] => { results := [.lit (.bool false)], args := [] }
  | _ => none }
def SuperKnownWrongFalsely : Prop := superKnownRow.holds Try.pinned (OpenSpec.ofChange superKnownWrong)

/-- 'reevelaw6.SuperSays': WHATEVER THE INPUT: true; the input reads as it did. -/
def superSaysSpec : ChangeSpec := { name := "superSays", fn := fun _ => fun
  | [d1, d2] => { results := [.lit (.bool true)], args := [d1, d2] }
  | _ => none }
def superSaysRow : OpenClaim := { program := "ytcndbfekcmalmaa", sum := "aae766fcc5bf095cc8d6958ba91a93ad059632b48214a3183e0e26f2b65d05c6", func := "reeve/reevelaw6.SuperSays", spec := "superSays", inPlace := ["math.archTrunc", "math.Float64bits", "math.Float64frombits"], apart := false }
def SuperSaysSaid : Prop := superSaysRow.holds Try.pinned (OpenSpec.ofChange superSaysSpec)

/-- ITS FALSE NEIGHBOUR: 'it returns false'. Refute it at one input. -/
def superSaysWrong : ChangeSpec := { name := "superSays", fn := fun _ => fun
  | [d1, d2] => { results := [.lit (.bool false)], args := [d1, d2] }
  | _ => none }
def SuperSaysWrongFalsely : Prop := superSaysRow.holds Try.pinned (OpenSpec.ofChange superSaysWrong)

/-- 'reevelaw6.SuperFinds': WHATEVER THE INPUT: true; the input reads as it did. -/
def superFindsSpec : ChangeSpec := { name := "superFinds", fn := fun _ => fun
  | [d1, d2, d3, d4] => { results := [.lit (.bool true)], args := [d1, d2, d3, d4] }
  | _ => none }
def superFindsRow : OpenClaim := { program := "ytcndbfekcmalmaa", sum := "aae766fcc5bf095cc8d6958ba91a93ad059632b48214a3183e0e26f2b65d05c6", func := "reeve/reevelaw6.SuperFinds", spec := "superFinds", inPlace := ["math.archTrunc", "math.Float64bits", "math.Float64frombits"], apart := false }
def SuperFindsSaid : Prop := superFindsRow.holds Try.pinned (OpenSpec.ofChange superFindsSpec)

/-- ITS FALSE NEIGHBOUR: 'it returns false'. Refute it at one input. -/
def superFindsWrong : ChangeSpec := { name := "superFinds", fn := fun _ => fun
  | [d1, d2, d3, d4] => { results := [.lit (.bool false)], args := [d1, d2, d3, d4] }
  | _ => none }
def SuperFindsWrongFalsely : Prop := superFindsRow.holds Try.pinned (OpenSpec.ofChange superFindsWrong)

/- THE SECOND FORM. 'bulk': how many values and letters a reading holds, each counted each time it is reached (what is shared counts as often as it is met; a slice's spare places count too). A statement '..UptoSaid' is the law's where the arguments, and the package variables that the reading takes, are together of bulk at most 1048576: NARROWER than '..Said'. Prove '..Said' where nothing that the law and all that it calls make is longer than what came in: it says more and counts as full. Else prove '..UptoSaid'. A law counts once. -/
mutual
def uptoBulk {H : Type} : DataW H → Nat
  | .lit (.string bytes) => bytes.length + 1
  | .lit _ => 1
  | .nil => 1
  | .ptr d => uptoBulk d + 1
  | .slice elems spare => uptoBulkAll elems + uptoBulkAll spare + 1
  | .agg parts => uptoBulkAll parts + 1
  | .iface _ d => uptoBulk d + 1
  | .map entries => uptoBulkEntries entries + 1
  | .held _ => 1
def uptoBulkAll {H : Type} : List (DataW H) → Nat
  | [] => 0
  | d :: r => uptoBulk d + uptoBulkAll r
def uptoBulkEntries {H : Type} : List (Lit × DataW H) → Nat
  | [] => 0
  | x :: r => uptoBulkEntry x + uptoBulkEntries r
def uptoBulkEntry {H : Type} : Lit × DataW H → Nat
  | (.string bytes, d) => bytes.length + uptoBulk d + 1
  | (_, d) => uptoBulk d + 1
 end
def uptoSmall : (H : Type) → List (DataW H) → Bool := fun _ ds => decide (uptoBulkAll ds ≤ 1048576)
def OpenSpec.upto (s : _root_.Go.ChangeSpec) : _root_.Go.OpenSpec := { _root_.Go.OpenSpec.ofChange s with cond := some uptoSmall }

/-- 'reevelaw1.GaussTurns', WHERE WHAT IT READS IS OF BULK AT MOST 1048576: true; the input reads as it did. -/
def gaussTurnsUptoRow : OpenClaim := { program := "ytcndbfekcmalmaa", sum := "aae766fcc5bf095cc8d6958ba91a93ad059632b48214a3183e0e26f2b65d05c6", func := "reeve/reevelaw1.GaussTurns", spec := "gaussTurns", inPlace := ["math.archTrunc", "math.Float64bits", "math.Float64frombits"], apart := false, narrowed := true }
def GaussTurnsUptoSaid : Prop := gaussTurnsUptoRow.holds Try.pinned (OpenSpec.upto gaussTurnsSpec)

/-- 'reevelaw1.GaussSpins', WHERE WHAT IT READS IS OF BULK AT MOST 1048576: true; the input reads as it did. -/
def gaussSpinsUptoRow : OpenClaim := { program := "ytcndbfekcmalmaa", sum := "aae766fcc5bf095cc8d6958ba91a93ad059632b48214a3183e0e26f2b65d05c6", func := "reeve/reevelaw1.GaussSpins", spec := "gaussSpins", inPlace := ["math.archTrunc", "math.Float64bits", "math.Float64frombits"], apart := false, narrowed := true }
def GaussSpinsUptoSaid : Prop := gaussSpinsUptoRow.holds Try.pinned (OpenSpec.upto gaussSpinsSpec)

/-- 'reevelaw1.GaussLong', WHERE WHAT IT READS IS OF BULK AT MOST 1048576: true; the input reads as it did. -/
def gaussLongUptoRow : OpenClaim := { program := "ytcndbfekcmalmaa", sum := "aae766fcc5bf095cc8d6958ba91a93ad059632b48214a3183e0e26f2b65d05c6", func := "reeve/reevelaw1.GaussLong", spec := "gaussLong", inPlace := ["math.archTrunc", "math.Float64bits", "math.Float64frombits"], apart := false, narrowed := true }
def GaussLongUptoSaid : Prop := gaussLongUptoRow.holds Try.pinned (OpenSpec.upto gaussLongSpec)

/-- 'reevelaw1.GaussWords', WHERE WHAT IT READS IS OF BULK AT MOST 1048576: true; the input reads as it did. -/
def gaussWordsUptoRow : OpenClaim := { program := "ytcndbfekcmalmaa", sum := "aae766fcc5bf095cc8d6958ba91a93ad059632b48214a3183e0e26f2b65d05c6", func := "reeve/reevelaw1.GaussWords", spec := "gaussWords", inPlace := ["math.archTrunc", "math.Float64bits", "math.Float64frombits"], apart := false, narrowed := true }
def GaussWordsUptoSaid : Prop := gaussWordsUptoRow.holds Try.pinned (OpenSpec.upto gaussWordsSpec)

/-- 'reevelaw1.GaussRing', WHERE WHAT IT READS IS OF BULK AT MOST 1048576: true; the input reads as it did. -/
def gaussRingUptoRow : OpenClaim := { program := "ytcndbfekcmalmaa", sum := "aae766fcc5bf095cc8d6958ba91a93ad059632b48214a3183e0e26f2b65d05c6", func := "reeve/reevelaw1.GaussRing", spec := "gaussRing", inPlace := ["math.archTrunc", "math.Float64bits", "math.Float64frombits"], apart := false, narrowed := true }
def GaussRingUptoSaid : Prop := gaussRingUptoRow.holds Try.pinned (OpenSpec.upto gaussRingSpec)

/-- 'reevelaw1.GaussKnown', WHERE WHAT IT READS IS OF BULK AT MOST 1048576: true; the input reads as it did. -/
def gaussKnownUptoRow : OpenClaim := { program := "ytcndbfekcmalmaa", sum := "aae766fcc5bf095cc8d6958ba91a93ad059632b48214a3183e0e26f2b65d05c6", func := "reeve/reevelaw1.GaussKnown", spec := "gaussKnown", inPlace := ["math.archTrunc", "math.Float64bits", "math.Float64frombits"], apart := false, narrowed := true }
def GaussKnownUptoSaid : Prop := gaussKnownUptoRow.holds Try.pinned (OpenSpec.upto gaussKnownSpec)

/-- 'reevelaw1.GaussSays', WHERE WHAT IT READS IS OF BULK AT MOST 1048576: true; the input reads as it did. -/
def gaussSaysUptoRow : OpenClaim := { program := "ytcndbfekcmalmaa", sum := "aae766fcc5bf095cc8d6958ba91a93ad059632b48214a3183e0e26f2b65d05c6", func := "reeve/reevelaw1.GaussSays", spec := "gaussSays", inPlace := ["math.archTrunc", "math.Float64bits", "math.Float64frombits"], apart := false, narrowed := true }
def GaussSaysUptoSaid : Prop := gaussSaysUptoRow.holds Try.pinned (OpenSpec.upto gaussSaysSpec)

/-- 'reevelaw6.SuperTurned', WHERE WHAT IT READS IS OF BULK AT MOST 1048576: true; the input reads as it did. -/
def superTurnedUptoRow : OpenClaim := { program := "ytcndbfekcmalmaa", sum := "aae766fcc5bf095cc8d6958ba91a93ad059632b48214a3183e0e26f2b65d05c6", func := "reeve/reevelaw6.SuperTurned", spec := "superTurned", inPlace := ["math.archTrunc", "math.Float64bits", "math.Float64frombits"], apart := false, narrowed := true }
def SuperTurnedUptoSaid : Prop := superTurnedUptoRow.holds Try.pinned (OpenSpec.upto superTurnedSpec)

/-- 'reevelaw6.SuperKnown', WHERE WHAT IT READS IS OF BULK AT MOST 1048576: true; the input reads as it did. -/
def superKnownUptoRow : OpenClaim := { program := "ytcndbfekcmalmaa", sum := "aae766fcc5bf095cc8d6958ba91a93ad059632b48214a3183e0e26f2b65d05c6", func := "reeve/reevelaw6.SuperKnown", spec := "superKnown", inPlace := ["math.archTrunc", "math.Float64bits", "math.Float64frombits"], apart := false, narrowed := true }
def SuperKnownUptoSaid : Prop := superKnownUptoRow.holds Try.pinned (OpenSpec.upto superKnownSpec)

/-- 'reevelaw6.SuperSays', WHERE WHAT IT READS IS OF BULK AT MOST 1048576: true; the input reads as it did. -/
def superSaysUptoRow : OpenClaim := { program := "ytcndbfekcmalmaa", sum := "aae766fcc5bf095cc8d6958ba91a93ad059632b48214a3183e0e26f2b65d05c6", func := "reeve/reevelaw6.SuperSays", spec := "superSays", inPlace := ["math.archTrunc", "math.Float64bits", "math.Float64frombits"], apart := false, narrowed := true }
def SuperSaysUptoSaid : Prop := superSaysUptoRow.holds Try.pinned (OpenSpec.upto superSaysSpec)

/-- 'reevelaw6.SuperFinds', WHERE WHAT IT READS IS OF BULK AT MOST 1048576: true; the input reads as it did. -/
def superFindsUptoRow : OpenClaim := { program := "ytcndbfekcmalmaa", sum := "aae766fcc5bf095cc8d6958ba91a93ad059632b48214a3183e0e26f2b65d05c6", func := "reeve/reevelaw6.SuperFinds", spec := "superFinds", inPlace := ["math.archTrunc", "math.Float64bits", "math.Float64frombits"], apart := false, narrowed := true }
def SuperFindsUptoSaid : Prop := superFindsUptoRow.holds Try.pinned (OpenSpec.upto superFindsSpec)

end Rows
end Go.Proofs.Ytcndbfekcmalmaa
