/-
  No cell of these rows narrows 'for every input' (looked for: loops, veiled, ifaces, maps, wideKeys, modest, calm, conditions, laid).
  DERIVED. THE GIVEN ROWS OF THIS SEAT. 10 by the template 'for every input the law returns true; each argument reads behind the call as it read before'; 0 by the template 'total and deterministic' (their statements: YtafpgojoemcgnaaTotals.lean).
  GIVEN WITH THE SEED: the statements are not yours to turn. If you find one false, say at which input.
  Laid BY PROGRAM, IN A SANDBOX (cutbox-rows.mjs): the forced cells as the released guide's own fill.sh prints them over the translation 84ad2dcd24186b83… (all of the seat's roots in one cut). By AI agents, Wed Nov 11 2026. No macro, syntax, notation, axiom, sorry.
-/
import Derived.Test.YtafpgojoemcgnaaChecked
import GoSem.Claim
import GoSem.ClaimJoined
import GoSem.ClaimMapViews
import Derived.JoinedTies
import Derived.KernelRfl
namespace Go.Proofs.Ytafpgojoemcgnaa
/- THE CELL 'sum', in the pinned program and in every row, IS THE sha256 OF THE DUMP (.gsa) THAT YtafpgojoemcgnaaProg.lean LOADS. Nothing in Lean hashes anything: it is a label: what it is worth is what the hold of that sum in a sandbox is worth. -/
noncomputable def Try.pinned : Pinned := { name := "ytafpgojoemcgnaa", sum := "84ad2dcd24186b83e6278350cf58cec6c2f4a088dae477b8d220e8afb2b395b5", checked := Try.checked }
namespace Rows
def none {H : Type} : Left H := { results := [], args := [] }

/-- 'reevelaw11.ThingKnown': WHATEVER THE INPUT: true; the input reads as it did. -/
def thingKnownSpec : ChangeSpec := { name := "thingKnown", fn := fun _ => fun
  | [] => { results := [.lit (.bool true)], args := [] }
  | _ => none }
def thingKnownRow : OpenClaim := { program := "ytafpgojoemcgnaa", sum := "84ad2dcd24186b83e6278350cf58cec6c2f4a088dae477b8d220e8afb2b395b5", func := "reeve/reevelaw11.ThingKnown", spec := "thingKnown", apart := false }
def ThingKnownSaid : Prop := thingKnownRow.holds Try.pinned (OpenSpec.ofChange thingKnownSpec)

/-- ITS FALSE NEIGHBOUR: 'it returns false'. Refute it at one input. -/
def thingKnownWrong : ChangeSpec := { name := "thingKnown", fn := fun _ => fun
  | [] => { results := [.lit (.bool false)], args := [] }
  | _ => none }
def ThingKnownWrongFalsely : Prop := thingKnownRow.holds Try.pinned (OpenSpec.ofChange thingKnownWrong)

/-- 'reevelaw11.ThingSays': WHATEVER THE INPUT: true; the input reads as it did. -/
def thingSaysSpec : ChangeSpec := { name := "thingSays", fn := fun _ => fun
  | [d1, d2, d3, d4, d5] => { results := [.lit (.bool true)], args := [d1, d2, d3, d4, d5] }
  | _ => none }
def thingSaysRow : OpenClaim := { program := "ytafpgojoemcgnaa", sum := "84ad2dcd24186b83e6278350cf58cec6c2f4a088dae477b8d220e8afb2b395b5", func := "reeve/reevelaw11.ThingSays", spec := "thingSays", apart := false }
def ThingSaysSaid : Prop := thingSaysRow.holds Try.pinned (OpenSpec.ofChange thingSaysSpec)

/-- ITS FALSE NEIGHBOUR: 'it returns false'. Refute it at one input. -/
def thingSaysWrong : ChangeSpec := { name := "thingSays", fn := fun _ => fun
  | [d1, d2, d3, d4, d5] => { results := [.lit (.bool false)], args := [d1, d2, d3, d4, d5] }
  | _ => none }
def ThingSaysWrongFalsely : Prop := thingSaysRow.holds Try.pinned (OpenSpec.ofChange thingSaysWrong)

/-- 'reevelaw11.ThingBack': WHATEVER THE INPUT: true; the input reads as it did. -/
def thingBackSpec : ChangeSpec := { name := "thingBack", fn := fun _ => fun
  | [d1, d2] => { results := [.lit (.bool true)], args := [d1, d2] }
  | _ => none }
def thingBackRow : OpenClaim := { program := "ytafpgojoemcgnaa", sum := "84ad2dcd24186b83e6278350cf58cec6c2f4a088dae477b8d220e8afb2b395b5", func := "reeve/reevelaw11.ThingBack", spec := "thingBack", apart := false }
def ThingBackSaid : Prop := thingBackRow.holds Try.pinned (OpenSpec.ofChange thingBackSpec)

/-- ITS FALSE NEIGHBOUR: 'it returns false'. Refute it at one input. -/
def thingBackWrong : ChangeSpec := { name := "thingBack", fn := fun _ => fun
  | [d1, d2] => { results := [.lit (.bool false)], args := [d1, d2] }
  | _ => none }
def ThingBackWrongFalsely : Prop := thingBackRow.holds Try.pinned (OpenSpec.ofChange thingBackWrong)

/-- 'reevelaw11.ThingApart': WHATEVER THE INPUT: true; the input reads as it did. -/
def thingApartSpec : ChangeSpec := { name := "thingApart", fn := fun _ => fun
  | [d1, d2] => { results := [.lit (.bool true)], args := [d1, d2] }
  | _ => none }
def thingApartRow : OpenClaim := { program := "ytafpgojoemcgnaa", sum := "84ad2dcd24186b83e6278350cf58cec6c2f4a088dae477b8d220e8afb2b395b5", func := "reeve/reevelaw11.ThingApart", spec := "thingApart", apart := false }
def ThingApartSaid : Prop := thingApartRow.holds Try.pinned (OpenSpec.ofChange thingApartSpec)

/-- ITS FALSE NEIGHBOUR: 'it returns false'. Refute it at one input. -/
def thingApartWrong : ChangeSpec := { name := "thingApart", fn := fun _ => fun
  | [d1, d2] => { results := [.lit (.bool false)], args := [d1, d2] }
  | _ => none }
def ThingApartWrongFalsely : Prop := thingApartRow.holds Try.pinned (OpenSpec.ofChange thingApartWrong)

/-- 'reevelaw11.ThingNew': WHATEVER THE INPUT: true; the input reads as it did. -/
def thingNewSpec : ChangeSpec := { name := "thingNew", fn := fun _ => fun
  | [d1, d2, d3] => { results := [.lit (.bool true)], args := [d1, d2, d3] }
  | _ => none }
def thingNewRow : OpenClaim := { program := "ytafpgojoemcgnaa", sum := "84ad2dcd24186b83e6278350cf58cec6c2f4a088dae477b8d220e8afb2b395b5", func := "reeve/reevelaw11.ThingNew", spec := "thingNew", apart := false }
def ThingNewSaid : Prop := thingNewRow.holds Try.pinned (OpenSpec.ofChange thingNewSpec)

/-- ITS FALSE NEIGHBOUR: 'it returns false'. Refute it at one input. -/
def thingNewWrong : ChangeSpec := { name := "thingNew", fn := fun _ => fun
  | [d1, d2, d3] => { results := [.lit (.bool false)], args := [d1, d2, d3] }
  | _ => none }
def ThingNewWrongFalsely : Prop := thingNewRow.holds Try.pinned (OpenSpec.ofChange thingNewWrong)

/-- 'reevelaw24.OpdKnown': WHATEVER THE INPUT: true; the input reads as it did. -/
def opdKnownSpec : ChangeSpec := { name := "opdKnown", fn := fun _ => fun
  | [] => { results := [.lit (.bool true)], args := [] }
  | _ => none }
def opdKnownRow : OpenClaim := { program := "ytafpgojoemcgnaa", sum := "84ad2dcd24186b83e6278350cf58cec6c2f4a088dae477b8d220e8afb2b395b5", func := "reeve/reevelaw24.OpdKnown", spec := "opdKnown", apart := false }
def OpdKnownSaid : Prop := opdKnownRow.holds Try.pinned (OpenSpec.ofChange opdKnownSpec)

/-- ITS FALSE NEIGHBOUR: 'it returns false'. Refute it at one input. -/
def opdKnownWrong : ChangeSpec := { name := "opdKnown", fn := fun _ => fun
  | [] => { results := [.lit (.bool false)], args := [] }
  | _ => none }
def OpdKnownWrongFalsely : Prop := opdKnownRow.holds Try.pinned (OpenSpec.ofChange opdKnownWrong)

/-- 'reevelaw24.OpdSays': WHATEVER THE INPUT: true; the input reads as it did. -/
def opdSaysSpec : ChangeSpec := { name := "opdSays", fn := fun _ => fun
  | [d1, d2, d3, d4] => { results := [.lit (.bool true)], args := [d1, d2, d3, d4] }
  | _ => none }
def opdSaysRow : OpenClaim := { program := "ytafpgojoemcgnaa", sum := "84ad2dcd24186b83e6278350cf58cec6c2f4a088dae477b8d220e8afb2b395b5", func := "reeve/reevelaw24.OpdSays", spec := "opdSays", apart := false }
def OpdSaysSaid : Prop := opdSaysRow.holds Try.pinned (OpenSpec.ofChange opdSaysSpec)

/-- ITS FALSE NEIGHBOUR: 'it returns false'. Refute it at one input. -/
def opdSaysWrong : ChangeSpec := { name := "opdSays", fn := fun _ => fun
  | [d1, d2, d3, d4] => { results := [.lit (.bool false)], args := [d1, d2, d3, d4] }
  | _ => none }
def OpdSaysWrongFalsely : Prop := opdSaysRow.holds Try.pinned (OpenSpec.ofChange opdSaysWrong)

/-- 'reevelaw24.OpdBack': WHATEVER THE INPUT: true; the input reads as it did. -/
def opdBackSpec : ChangeSpec := { name := "opdBack", fn := fun _ => fun
  | [d1, d2, d3, d4] => { results := [.lit (.bool true)], args := [d1, d2, d3, d4] }
  | _ => none }
def opdBackRow : OpenClaim := { program := "ytafpgojoemcgnaa", sum := "84ad2dcd24186b83e6278350cf58cec6c2f4a088dae477b8d220e8afb2b395b5", func := "reeve/reevelaw24.OpdBack", spec := "opdBack", apart := false }
def OpdBackSaid : Prop := opdBackRow.holds Try.pinned (OpenSpec.ofChange opdBackSpec)

/-- ITS FALSE NEIGHBOUR: 'it returns false'. Refute it at one input. -/
def opdBackWrong : ChangeSpec := { name := "opdBack", fn := fun _ => fun
  | [d1, d2, d3, d4] => { results := [.lit (.bool false)], args := [d1, d2, d3, d4] }
  | _ => none }
def OpdBackWrongFalsely : Prop := opdBackRow.holds Try.pinned (OpenSpec.ofChange opdBackWrong)

/-- 'reevelaw24.OpdFirst': WHATEVER THE INPUT: true; the input reads as it did. -/
def opdFirstSpec : ChangeSpec := { name := "opdFirst", fn := fun _ => fun
  | [d1, d2] => { results := [.lit (.bool true)], args := [d1, d2] }
  | _ => none }
def opdFirstRow : OpenClaim := { program := "ytafpgojoemcgnaa", sum := "84ad2dcd24186b83e6278350cf58cec6c2f4a088dae477b8d220e8afb2b395b5", func := "reeve/reevelaw24.OpdFirst", spec := "opdFirst", apart := false }
def OpdFirstSaid : Prop := opdFirstRow.holds Try.pinned (OpenSpec.ofChange opdFirstSpec)

/-- ITS FALSE NEIGHBOUR: 'it returns false'. Refute it at one input. -/
def opdFirstWrong : ChangeSpec := { name := "opdFirst", fn := fun _ => fun
  | [d1, d2] => { results := [.lit (.bool false)], args := [d1, d2] }
  | _ => none }
def OpdFirstWrongFalsely : Prop := opdFirstRow.holds Try.pinned (OpenSpec.ofChange opdFirstWrong)

/-- 'reevelaw24.OpdTail': WHATEVER THE INPUT: true; the input reads as it did. -/
def opdTailSpec : ChangeSpec := { name := "opdTail", fn := fun _ => fun
  | [d1, d2, d3] => { results := [.lit (.bool true)], args := [d1, d2, d3] }
  | _ => none }
def opdTailRow : OpenClaim := { program := "ytafpgojoemcgnaa", sum := "84ad2dcd24186b83e6278350cf58cec6c2f4a088dae477b8d220e8afb2b395b5", func := "reeve/reevelaw24.OpdTail", spec := "opdTail", apart := false }
def OpdTailSaid : Prop := opdTailRow.holds Try.pinned (OpenSpec.ofChange opdTailSpec)

/-- ITS FALSE NEIGHBOUR: 'it returns false'. Refute it at one input. -/
def opdTailWrong : ChangeSpec := { name := "opdTail", fn := fun _ => fun
  | [d1, d2, d3] => { results := [.lit (.bool false)], args := [d1, d2, d3] }
  | _ => none }
def OpdTailWrongFalsely : Prop := opdTailRow.holds Try.pinned (OpenSpec.ofChange opdTailWrong)

/- THE SECOND FORM. 'bulk': how many values and letters a reading holds, each counted each time it is reached (what is shared counts as often as it is met; a slice's spare places count too). A statement '..UptoSaid' is the law's where the arguments, and the package variables that the reading takes, are together of bulk at most 1048576: NARROWER than '..Said'. Prove '..Said' where nothing that the law and all that it calls make is longer than what came in: it says more and counts as full. Else prove '..UptoSaid'. A law counts once. -/
mutual
def uptoBulk {H : Type} : DataW H → Nat
  | .lit (.string bytes) => bytes.length + 1
  | .lit _ => 1
  | .nil => 1
  | .ptr d => uptoBulk d + 1
  | .slice elems spare => uptoBulkAll elems + uptoBulkAll spare + 1
  | .agg parts => uptoBulkAll parts + 1
  | .iface _ d => uptoBulk d + 1
  | .map entries => uptoBulkEntries entries + 1
  | .held _ => 1
def uptoBulkAll {H : Type} : List (DataW H) → Nat
  | [] => 0
  | d :: r => uptoBulk d + uptoBulkAll r
def uptoBulkEntries {H : Type} : List (Lit × DataW H) → Nat
  | [] => 0
  | x :: r => uptoBulkEntry x + uptoBulkEntries r
def uptoBulkEntry {H : Type} : Lit × DataW H → Nat
  | (.string bytes, d) => bytes.length + uptoBulk d + 1
  | (_, d) => uptoBulk d + 1
 end
def uptoSmall : (H : Type) → List (DataW H) → Bool := fun _ ds => decide (uptoBulkAll ds ≤ 1048576)
def OpenSpec.upto (s : _root_.Go.ChangeSpec) : _root_.Go.OpenSpec := { _root_.Go.OpenSpec.ofChange s with cond := some uptoSmall }

/-- 'reevelaw11.ThingKnown', WHERE WHAT IT READS IS OF BULK AT MOST 1048576: true; the input reads as it did. -/
def thingKnownUptoRow : OpenClaim := { program := "ytafpgojoemcgnaa", sum := "84ad2dcd24186b83e6278350cf58cec6c2f4a088dae477b8d220e8afb2b395b5", func := "reeve/reevelaw11.ThingKnown", spec := "thingKnown", apart := false, narrowed := true }
def ThingKnownUptoSaid : Prop := thingKnownUptoRow.holds Try.pinned (OpenSpec.upto thingKnownSpec)

/-- 'reevelaw11.ThingSays', WHERE WHAT IT READS IS OF BULK AT MOST 1048576: true; the input reads as it did. -/
def thingSaysUptoRow : OpenClaim := { program := "ytafpgojoemcgnaa", sum := "84ad2dcd24186b83e6278350cf58cec6c2f4a088dae477b8d220e8afb2b395b5", func := "reeve/reevelaw11.ThingSays", spec := "thingSays", apart := false, narrowed := true }
def ThingSaysUptoSaid : Prop := thingSaysUptoRow.holds Try.pinned (OpenSpec.upto thingSaysSpec)

/-- 'reevelaw11.ThingBack', WHERE WHAT IT READS IS OF BULK AT MOST 1048576: true; the input reads as it did. -/
def thingBackUptoRow : OpenClaim := { program := "ytafpgojoemcgnaa", sum := "84ad2dcd24186b83e6278350cf58cec6c2f4a088dae477b8d220e8afb2b395b5", func := "reeve/reevelaw11.ThingBack", spec := "thingBack", apart := false, narrowed := true }
def ThingBackUptoSaid : Prop := thingBackUptoRow.holds Try.pinned (OpenSpec.upto thingBackSpec)

/-- 'reevelaw11.ThingApart', WHERE WHAT IT READS IS OF BULK AT MOST 1048576: true; the input reads as it did. -/
def thingApartUptoRow : OpenClaim := { program := "ytafpgojoemcgnaa", sum := "84ad2dcd24186b83e6278350cf58cec6c2f4a088dae477b8d220e8afb2b395b5", func := "reeve/reevelaw11.ThingApart", spec := "thingApart", apart := false, narrowed := true }
def ThingApartUptoSaid : Prop := thingApartUptoRow.holds Try.pinned (OpenSpec.upto thingApartSpec)

/-- 'reevelaw11.ThingNew', WHERE WHAT IT READS IS OF BULK AT MOST 1048576: true; the input reads as it did. -/
def thingNewUptoRow : OpenClaim := { program := "ytafpgojoemcgnaa", sum := "84ad2dcd24186b83e6278350cf58cec6c2f4a088dae477b8d220e8afb2b395b5", func := "reeve/reevelaw11.ThingNew", spec := "thingNew", apart := false, narrowed := true }
def ThingNewUptoSaid : Prop := thingNewUptoRow.holds Try.pinned (OpenSpec.upto thingNewSpec)

/-- 'reevelaw24.OpdKnown', WHERE WHAT IT READS IS OF BULK AT MOST 1048576: true; the input reads as it did. -/
def opdKnownUptoRow : OpenClaim := { program := "ytafpgojoemcgnaa", sum := "84ad2dcd24186b83e6278350cf58cec6c2f4a088dae477b8d220e8afb2b395b5", func := "reeve/reevelaw24.OpdKnown", spec := "opdKnown", apart := false, narrowed := true }
def OpdKnownUptoSaid : Prop := opdKnownUptoRow.holds Try.pinned (OpenSpec.upto opdKnownSpec)

/-- 'reevelaw24.OpdSays', WHERE WHAT IT READS IS OF BULK AT MOST 1048576: true; the input reads as it did. -/
def opdSaysUptoRow : OpenClaim := { program := "ytafpgojoemcgnaa", sum := "84ad2dcd24186b83e6278350cf58cec6c2f4a088dae477b8d220e8afb2b395b5", func := "reeve/reevelaw24.OpdSays", spec := "opdSays", apart := false, narrowed := true }
def OpdSaysUptoSaid : Prop := opdSaysUptoRow.holds Try.pinned (OpenSpec.upto opdSaysSpec)

/-- 'reevelaw24.OpdBack', WHERE WHAT IT READS IS OF BULK AT MOST 1048576: true; the input reads as it did. -/
def opdBackUptoRow : OpenClaim := { program := "ytafpgojoemcgnaa", sum := "84ad2dcd24186b83e6278350cf58cec6c2f4a088dae477b8d220e8afb2b395b5", func := "reeve/reevelaw24.OpdBack", spec := "opdBack", apart := false, narrowed := true }
def OpdBackUptoSaid : Prop := opdBackUptoRow.holds Try.pinned (OpenSpec.upto opdBackSpec)

/-- 'reevelaw24.OpdFirst', WHERE WHAT IT READS IS OF BULK AT MOST 1048576: true; the input reads as it did. -/
def opdFirstUptoRow : OpenClaim := { program := "ytafpgojoemcgnaa", sum := "84ad2dcd24186b83e6278350cf58cec6c2f4a088dae477b8d220e8afb2b395b5", func := "reeve/reevelaw24.OpdFirst", spec := "opdFirst", apart := false, narrowed := true }
def OpdFirstUptoSaid : Prop := opdFirstUptoRow.holds Try.pinned (OpenSpec.upto opdFirstSpec)

/-- 'reevelaw24.OpdTail', WHERE WHAT IT READS IS OF BULK AT MOST 1048576: true; the input reads as it did. -/
def opdTailUptoRow : OpenClaim := { program := "ytafpgojoemcgnaa", sum := "84ad2dcd24186b83e6278350cf58cec6c2f4a088dae477b8d220e8afb2b395b5", func := "reeve/reevelaw24.OpdTail", spec := "opdTail", apart := false, narrowed := true }
def OpdTailUptoSaid : Prop := opdTailUptoRow.holds Try.pinned (OpenSpec.upto opdTailSpec)

end Rows
end Go.Proofs.Ytafpgojoemcgnaa
