/-
  No cell of these rows narrows 'for every input' (looked for: loops, veiled, ifaces, maps, wideKeys, modest, calm, conditions, laid).
  DERIVED. THE GIVEN ROWS OF THIS SEAT. 9 by the template 'for every input the law returns true; each argument reads behind the call as it read before'; 0 by the template 'total and deterministic' (their statements: YtkcahnefekkfaaaTotals.lean).
  GIVEN WITH THE SEED: the statements are not yours to turn. If you find one false, say at which input.
  Laid BY PROGRAM, IN A SANDBOX (cutbox-rows.mjs): the forced cells as the released guide's own fill.sh prints them over the translation 511bb28d56864379… (all of the seat's roots in one cut). By AI agents, Wed Nov 11 2026. No macro, syntax, notation, axiom, sorry.
-/
import Derived.Test.YtkcahnefekkfaaaChecked
import GoSem.Claim
import GoSem.ClaimJoined
import GoSem.ClaimMapViews
import Derived.JoinedTies
import Derived.KernelRfl
namespace Go.Proofs.Ytkcahnefekkfaaa
/- THE CELL 'sum', in the pinned program and in every row, IS THE sha256 OF THE DUMP (.gsa) THAT YtkcahnefekkfaaaProg.lean LOADS. Nothing in Lean hashes anything: it is a label: what it is worth is what the hold of that sum in a sandbox is worth. -/
noncomputable def Try.pinned : Pinned := { name := "ytkcahnefekkfaaa", sum := "511bb28d56864379dd280ba3fab5657baff1dac988ebe9143f68beacb8303e15", checked := Try.checked }
namespace Rows
def none {H : Type} : Left H := { results := [], args := [] }

/-- 'reevelaw12.StateHolders': WHATEVER THE INPUT: true; the input reads as it did. -/
def stateHoldersSpec : ChangeSpec := { name := "stateHolders", fn := fun _ => fun
  | [d] => { results := [.lit (.bool true)], args := [d] }
  | _ => none }
def stateHoldersRow : OpenClaim := { program := "ytkcahnefekkfaaa", sum := "511bb28d56864379dd280ba3fab5657baff1dac988ebe9143f68beacb8303e15", func := "reeve/reevelaw12.StateHolders", spec := "stateHolders", unfollowed := true, recurses := true, apart := false }
def StateHoldersSaid : Prop := stateHoldersRow.holds Try.pinned (OpenSpec.ofChange stateHoldersSpec)

/-- ITS FALSE NEIGHBOUR: 'it returns false'. Refute it at one input. -/
def stateHoldersWrong : ChangeSpec := { name := "stateHolders", fn := fun _ => fun
  | [d] => { results := [.lit (.bool false)], args := [d] }
  | _ => none }
def StateHoldersWrongFalsely : Prop := stateHoldersRow.holds Try.pinned (OpenSpec.ofChange stateHoldersWrong)

/-- 'reevelaw12.StateNew': WHATEVER THE INPUT: true; the input reads as it did. -/
def stateNewSpec : ChangeSpec := { name := "stateNew", fn := fun _ => fun
  | [d1, d2] => { results := [.lit (.bool true)], args := [d1, d2] }
  | _ => none }
def stateNewRow : OpenClaim := { program := "ytkcahnefekkfaaa", sum := "511bb28d56864379dd280ba3fab5657baff1dac988ebe9143f68beacb8303e15", func := "reeve/reevelaw12.StateNew", spec := "stateNew", unfollowed := true, recurses := true, apart := false }
def StateNewSaid : Prop := stateNewRow.holds Try.pinned (OpenSpec.ofChange stateNewSpec)

/-- ITS FALSE NEIGHBOUR: 'it returns false'. Refute it at one input. -/
def stateNewWrong : ChangeSpec := { name := "stateNew", fn := fun _ => fun
  | [d1, d2] => { results := [.lit (.bool false)], args := [d1, d2] }
  | _ => none }
def StateNewWrongFalsely : Prop := stateNewRow.holds Try.pinned (OpenSpec.ofChange stateNewWrong)

/-- 'reevelaw12.StateGaps': WHATEVER THE INPUT: true; the input reads as it did. -/
def stateGapsSpec : ChangeSpec := { name := "stateGaps", fn := fun _ => fun
  | [d1, d2] => { results := [.lit (.bool true)], args := [d1, d2] }
  | _ => none }
def stateGapsRow : OpenClaim := { program := "ytkcahnefekkfaaa", sum := "511bb28d56864379dd280ba3fab5657baff1dac988ebe9143f68beacb8303e15", func := "reeve/reevelaw12.StateGaps", spec := "stateGaps", unfollowed := true, recurses := true, apart := false }
def StateGapsSaid : Prop := stateGapsRow.holds Try.pinned (OpenSpec.ofChange stateGapsSpec)

/-- ITS FALSE NEIGHBOUR: 'it returns false'. Refute it at one input. -/
def stateGapsWrong : ChangeSpec := { name := "stateGaps", fn := fun _ => fun
  | [d1, d2] => { results := [.lit (.bool false)], args := [d1, d2] }
  | _ => none }
def StateGapsWrongFalsely : Prop := stateGapsRow.holds Try.pinned (OpenSpec.ofChange stateGapsWrong)

/-- 'reevelaw12.StateSame': WHATEVER THE INPUT: true; the input reads as it did. -/
def stateSameSpec : ChangeSpec := { name := "stateSame", fn := fun _ => fun
  | [d1, d2, d3] => { results := [.lit (.bool true)], args := [d1, d2, d3] }
  | _ => none }
def stateSameRow : OpenClaim := { program := "ytkcahnefekkfaaa", sum := "511bb28d56864379dd280ba3fab5657baff1dac988ebe9143f68beacb8303e15", func := "reeve/reevelaw12.StateSame", spec := "stateSame", unfollowed := true, recurses := true, apart := false }
def StateSameSaid : Prop := stateSameRow.holds Try.pinned (OpenSpec.ofChange stateSameSpec)

/-- ITS FALSE NEIGHBOUR: 'it returns false'. Refute it at one input. -/
def stateSameWrong : ChangeSpec := { name := "stateSame", fn := fun _ => fun
  | [d1, d2, d3] => { results := [.lit (.bool false)], args := [d1, d2, d3] }
  | _ => none }
def StateSameWrongFalsely : Prop := stateSameRow.holds Try.pinned (OpenSpec.ofChange stateSameWrong)

/-- 'reevelaw13.FindEmpty': WHATEVER THE INPUT: true; the input reads as it did. -/
def findEmptySpec : ChangeSpec := { name := "findEmpty", fn := fun _ => fun
  | [d1, d2, d3] => { results := [.lit (.bool true)], args := [d1, d2, d3] }
  | _ => none }
def findEmptyRow : OpenClaim := { program := "ytkcahnefekkfaaa", sum := "511bb28d56864379dd280ba3fab5657baff1dac988ebe9143f68beacb8303e15", func := "reeve/reevelaw13.FindEmpty", spec := "findEmpty", unfollowed := true, recurses := true, apart := false }
def FindEmptySaid : Prop := findEmptyRow.holds Try.pinned (OpenSpec.ofChange findEmptySpec)

/-- ITS FALSE NEIGHBOUR: 'it returns false'. Refute it at one input. -/
def findEmptyWrong : ChangeSpec := { name := "findEmpty", fn := fun _ => fun
  | [d1, d2, d3] => { results := [.lit (.bool false)], args := [d1, d2, d3] }
  | _ => none }
def FindEmptyWrongFalsely : Prop := findEmptyRow.holds Try.pinned (OpenSpec.ofChange findEmptyWrong)

/-- 'reevelaw12.StateKnown': WHATEVER THE INPUT: true; the input reads as it did. -/
def stateKnownSpec : ChangeSpec := { name := "stateKnown", fn := fun _ => fun
  | [] => { results := [.lit (.bool true)], args := [] }
  | _ => none }
def stateKnownRow : OpenClaim := { program := "ytkcahnefekkfaaa", sum := "511bb28d56864379dd280ba3fab5657baff1dac988ebe9143f68beacb8303e15", func := "reeve/reevelaw12.StateKnown", spec := "stateKnown", unfollowed := true, recurses := true, apart := false }
def StateKnownSaid : Prop := stateKnownRow.holds Try.pinned (OpenSpec.ofChange stateKnownSpec)

/-- ITS FALSE NEIGHBOUR: 'it returns false'. Refute it at one input. -/
def stateKnownWrong : ChangeSpec := { name := "stateKnown", fn := fun _ => fun
  | [] => { results := [.lit (.bool false)], args := [] }
  | _ => none }
def StateKnownWrongFalsely : Prop := stateKnownRow.holds Try.pinned (OpenSpec.ofChange stateKnownWrong)

/-- 'reevelaw12.StateSays': WHATEVER THE INPUT: true; the input reads as it did. -/
def stateSaysSpec : ChangeSpec := { name := "stateSays", fn := fun _ => fun
  | [d1, d2, d3, d4, d5] => { results := [.lit (.bool true)], args := [d1, d2, d3, d4, d5] }
  | _ => none }
def stateSaysRow : OpenClaim := { program := "ytkcahnefekkfaaa", sum := "511bb28d56864379dd280ba3fab5657baff1dac988ebe9143f68beacb8303e15", func := "reeve/reevelaw12.StateSays", spec := "stateSays", unfollowed := true, recurses := true, apart := false }
def StateSaysSaid : Prop := stateSaysRow.holds Try.pinned (OpenSpec.ofChange stateSaysSpec)

/-- ITS FALSE NEIGHBOUR: 'it returns false'. Refute it at one input. -/
def stateSaysWrong : ChangeSpec := { name := "stateSays", fn := fun _ => fun
  | [d1, d2, d3, d4, d5] => { results := [.lit (.bool false)], args := [d1, d2, d3, d4, d5] }
  | _ => none }
def StateSaysWrongFalsely : Prop := stateSaysRow.holds Try.pinned (OpenSpec.ofChange stateSaysWrong)

/-- 'reevelaw13.FindWays': WHATEVER THE INPUT: true; the input reads as it did. -/
def findWaysSpec : ChangeSpec := { name := "findWays", fn := fun _ => fun
  | [d1, d2, d3] => { results := [.lit (.bool true)], args := [d1, d2, d3] }
  | _ => none }
def findWaysRow : OpenClaim := { program := "ytkcahnefekkfaaa", sum := "511bb28d56864379dd280ba3fab5657baff1dac988ebe9143f68beacb8303e15", func := "reeve/reevelaw13.FindWays", spec := "findWays", unfollowed := true, recurses := true, apart := false }
def FindWaysSaid : Prop := findWaysRow.holds Try.pinned (OpenSpec.ofChange findWaysSpec)

/-- ITS FALSE NEIGHBOUR: 'it returns false'. Refute it at one input. -/
def findWaysWrong : ChangeSpec := { name := "findWays", fn := fun _ => fun
  | [d1, d2, d3] => { results := [.lit (.bool false)], args := [d1, d2, d3] }
  | _ => none }
def FindWaysWrongFalsely : Prop := findWaysRow.holds Try.pinned (OpenSpec.ofChange findWaysWrong)

/-- 'reevelaw13.FindKnown': WHATEVER THE INPUT: true; the input reads as it did. -/
def findKnownSpec : ChangeSpec := { name := "findKnown", fn := fun _ => fun
  | [] => { results := [.lit (.bool true)], args := [] }
  | _ => none }
def findKnownRow : OpenClaim := { program := "ytkcahnefekkfaaa", sum := "511bb28d56864379dd280ba3fab5657baff1dac988ebe9143f68beacb8303e15", func := "reeve/reevelaw13.FindKnown", spec := "findKnown", unfollowed := true, recurses := true, apart := false }
def FindKnownSaid : Prop := findKnownRow.holds Try.pinned (OpenSpec.ofChange findKnownSpec)

/-- ITS FALSE NEIGHBOUR: 'it returns false'. Refute it at one input. -/
def findKnownWrong : ChangeSpec := { name := "findKnown", fn := fun _ => fun
  | [] => { results := [.lit (.bool false)], args := [] }
  | _ => none }
def FindKnownWrongFalsely : Prop := findKnownRow.holds Try.pinned (OpenSpec.ofChange findKnownWrong)

/- THE SECOND FORM. 'bulk': how many values and letters a reading holds, each counted each time it is reached (what is shared counts as often as it is met; a slice's spare places count too). A statement '..UptoSaid' is the law's where the arguments, and the package variables that the reading takes, are together of bulk at most 1048576: NARROWER than '..Said'. Prove '..Said' where nothing that the law and all that it calls make is longer than what came in: it says more and counts as full. Else prove '..UptoSaid'. A law counts once. -/
mutual
def uptoBulk {H : Type} : DataW H → Nat
  | .lit (.string bytes) => bytes.length + 1
  | .lit _ => 1
  | .nil => 1
  | .ptr d => uptoBulk d + 1
  | .slice elems spare => uptoBulkAll elems + uptoBulkAll spare + 1
  | .agg parts => uptoBulkAll parts + 1
  | .iface _ d => uptoBulk d + 1
  | .map entries => uptoBulkEntries entries + 1
  | .held _ => 1
def uptoBulkAll {H : Type} : List (DataW H) → Nat
  | [] => 0
  | d :: r => uptoBulk d + uptoBulkAll r
def uptoBulkEntries {H : Type} : List (Lit × DataW H) → Nat
  | [] => 0
  | x :: r => uptoBulkEntry x + uptoBulkEntries r
def uptoBulkEntry {H : Type} : Lit × DataW H → Nat
  | (.string bytes, d) => bytes.length + uptoBulk d + 1
  | (_, d) => uptoBulk d + 1
 end
def uptoSmall : (H : Type) → List (DataW H) → Bool := fun _ ds => decide (uptoBulkAll ds ≤ 1048576)
def OpenSpec.upto (s : _root_.Go.ChangeSpec) : _root_.Go.OpenSpec := { _root_.Go.OpenSpec.ofChange s with cond := some uptoSmall }

/-- 'reevelaw12.StateHolders', WHERE WHAT IT READS IS OF BULK AT MOST 1048576: true; the input reads as it did. -/
def stateHoldersUptoRow : OpenClaim := { program := "ytkcahnefekkfaaa", sum := "511bb28d56864379dd280ba3fab5657baff1dac988ebe9143f68beacb8303e15", func := "reeve/reevelaw12.StateHolders", spec := "stateHolders", unfollowed := true, recurses := true, apart := false, narrowed := true }
def StateHoldersUptoSaid : Prop := stateHoldersUptoRow.holds Try.pinned (OpenSpec.upto stateHoldersSpec)

/-- 'reevelaw12.StateNew', WHERE WHAT IT READS IS OF BULK AT MOST 1048576: true; the input reads as it did. -/
def stateNewUptoRow : OpenClaim := { program := "ytkcahnefekkfaaa", sum := "511bb28d56864379dd280ba3fab5657baff1dac988ebe9143f68beacb8303e15", func := "reeve/reevelaw12.StateNew", spec := "stateNew", unfollowed := true, recurses := true, apart := false, narrowed := true }
def StateNewUptoSaid : Prop := stateNewUptoRow.holds Try.pinned (OpenSpec.upto stateNewSpec)

/-- 'reevelaw12.StateGaps', WHERE WHAT IT READS IS OF BULK AT MOST 1048576: true; the input reads as it did. -/
def stateGapsUptoRow : OpenClaim := { program := "ytkcahnefekkfaaa", sum := "511bb28d56864379dd280ba3fab5657baff1dac988ebe9143f68beacb8303e15", func := "reeve/reevelaw12.StateGaps", spec := "stateGaps", unfollowed := true, recurses := true, apart := false, narrowed := true }
def StateGapsUptoSaid : Prop := stateGapsUptoRow.holds Try.pinned (OpenSpec.upto stateGapsSpec)

/-- 'reevelaw12.StateSame', WHERE WHAT IT READS IS OF BULK AT MOST 1048576: true; the input reads as it did. -/
def stateSameUptoRow : OpenClaim := { program := "ytkcahnefekkfaaa", sum := "511bb28d56864379dd280ba3fab5657baff1dac988ebe9143f68beacb8303e15", func := "reeve/reevelaw12.StateSame", spec := "stateSame", unfollowed := true, recurses := true, apart := false, narrowed := true }
def StateSameUptoSaid : Prop := stateSameUptoRow.holds Try.pinned (OpenSpec.upto stateSameSpec)

/-- 'reevelaw13.FindEmpty', WHERE WHAT IT READS IS OF BULK AT MOST 1048576: true; the input reads as it did. -/
def findEmptyUptoRow : OpenClaim := { program := "ytkcahnefekkfaaa", sum := "511bb28d56864379dd280ba3fab5657baff1dac988ebe9143f68beacb8303e15", func := "reeve/reevelaw13.FindEmpty", spec := "findEmpty", unfollowed := true, recurses := true, apart := false, narrowed := true }
def FindEmptyUptoSaid : Prop := findEmptyUptoRow.holds Try.pinned (OpenSpec.upto findEmptySpec)

/-- 'reevelaw12.StateKnown', WHERE WHAT IT READS IS OF BULK AT MOST 1048576: true; the input reads as it did. -/
def stateKnownUptoRow : OpenClaim := { program := "ytkcahnefekkfaaa", sum := "511bb28d56864379dd280ba3fab5657baff1dac988ebe9143f68beacb8303e15", func := "reeve/reevelaw12.StateKnown", spec := "stateKnown", unfollowed := true, recurses := true, apart := false, narrowed := true }
def StateKnownUptoSaid : Prop := stateKnownUptoRow.holds Try.pinned (OpenSpec.upto stateKnownSpec)

/-- 'reevelaw12.StateSays', WHERE WHAT IT READS IS OF BULK AT MOST 1048576: true; the input reads as it did. -/
def stateSaysUptoRow : OpenClaim := { program := "ytkcahnefekkfaaa", sum := "511bb28d56864379dd280ba3fab5657baff1dac988ebe9143f68beacb8303e15", func := "reeve/reevelaw12.StateSays", spec := "stateSays", unfollowed := true, recurses := true, apart := false, narrowed := true }
def StateSaysUptoSaid : Prop := stateSaysUptoRow.holds Try.pinned (OpenSpec.upto stateSaysSpec)

/-- 'reevelaw13.FindWays', WHERE WHAT IT READS IS OF BULK AT MOST 1048576: true; the input reads as it did. -/
def findWaysUptoRow : OpenClaim := { program := "ytkcahnefekkfaaa", sum := "511bb28d56864379dd280ba3fab5657baff1dac988ebe9143f68beacb8303e15", func := "reeve/reevelaw13.FindWays", spec := "findWays", unfollowed := true, recurses := true, apart := false, narrowed := true }
def FindWaysUptoSaid : Prop := findWaysUptoRow.holds Try.pinned (OpenSpec.upto findWaysSpec)

/-- 'reevelaw13.FindKnown', WHERE WHAT IT READS IS OF BULK AT MOST 1048576: true; the input reads as it did. -/
def findKnownUptoRow : OpenClaim := { program := "ytkcahnefekkfaaa", sum := "511bb28d56864379dd280ba3fab5657baff1dac988ebe9143f68beacb8303e15", func := "reeve/reevelaw13.FindKnown", spec := "findKnown", unfollowed := true, recurses := true, apart := false, narrowed := true }
def FindKnownUptoSaid : Prop := findKnownUptoRow.holds Try.pinned (OpenSpec.upto findKnownSpec)

end Rows
end Go.Proofs.Ytkcahnefekkfaaa
