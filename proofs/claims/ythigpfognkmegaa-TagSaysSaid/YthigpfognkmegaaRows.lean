/-
  No cell of these rows narrows 'for every input' (looked for: loops, veiled, ifaces, maps, wideKeys, modest, calm, conditions, laid).
  DERIVED. THE GIVEN ROWS OF THIS SEAT. 8 by the template 'for every input the law returns true; each argument reads behind the call as it read before'; 0 by the template 'total and deterministic' (their statements: YthigpfognkmegaaTotals.lean).
  GIVEN WITH THE SEED: the statements are not yours to turn. If you find one false, say at which input.
  Laid BY PROGRAM, IN A SANDBOX (cutbox-rows.mjs): the forced cells as the released guide's own fill.sh prints them over the translation 9204dd8e3649f54b… (all of the seat's roots in one cut). By AI agents, Wed Nov 11 2026. No macro, syntax, notation, axiom, sorry.
-/
import Derived.Test.YthigpfognkmegaaChecked
import GoSem.Claim
import GoSem.ClaimJoined
import GoSem.ClaimMapViews
import Derived.JoinedTies
import Derived.KernelRfl
namespace Go.Proofs.Ythigpfognkmegaa
/- THE CELL 'sum', in the pinned program and in every row, IS THE sha256 OF THE DUMP (.gsa) THAT YthigpfognkmegaaProg.lean LOADS. Nothing in Lean hashes anything: it is a label: what it is worth is what the hold of that sum in a sandbox is worth. -/
noncomputable def Try.pinned : Pinned := { name := "ythigpfognkmegaa", sum := "9204dd8e3649f54b5cdf27dd580ce5b83a1c27bb712ea2d6c962418dfabf4e36", checked := Try.checked }
namespace Rows
def none {H : Type} : Left H := { results := [], args := [] }

/-- 'reevelaw4.TagBack': WHATEVER THE INPUT: true; the input reads as it did. -/
def tagBackSpec : ChangeSpec := { name := "tagBack", fn := fun _ => fun
  | [d1, d2] => { results := [.lit (.bool true)], args := [d1, d2] }
  | _ => none }
def tagBackRow : OpenClaim := { program := "ythigpfognkmegaa", sum := "9204dd8e3649f54b5cdf27dd580ce5b83a1c27bb712ea2d6c962418dfabf4e36", func := "reeve/reevelaw4.TagBack", spec := "tagBack", apart := false }
def TagBackSaid : Prop := tagBackRow.holds Try.pinned (OpenSpec.ofChange tagBackSpec)

/-- ITS FALSE NEIGHBOUR: 'it returns false'. Refute it at one input. -/
def tagBackWrong : ChangeSpec := { name := "tagBack", fn := fun _ => fun
  | [d1, d2] => { results := [.lit (.bool false)], args := [d1, d2] }
  | _ => none }
def TagBackWrongFalsely : Prop := tagBackRow.holds Try.pinned (OpenSpec.ofChange tagBackWrong)

/-- 'reevelaw4.TagSet': WHATEVER THE INPUT: true; the input reads as it did. -/
def tagSetSpec : ChangeSpec := { name := "tagSet", fn := fun _ => fun
  | [d1, d2, d3, d4] => { results := [.lit (.bool true)], args := [d1, d2, d3, d4] }
  | _ => none }
def tagSetRow : OpenClaim := { program := "ythigpfognkmegaa", sum := "9204dd8e3649f54b5cdf27dd580ce5b83a1c27bb712ea2d6c962418dfabf4e36", func := "reeve/reevelaw4.TagSet", spec := "tagSet", apart := false }
def TagSetSaid : Prop := tagSetRow.holds Try.pinned (OpenSpec.ofChange tagSetSpec)

/-- ITS FALSE NEIGHBOUR: 'it returns false'. Refute it at one input. -/
def tagSetWrong : ChangeSpec := { name := "tagSet", fn := fun _ => fun
  | [d1, d2, d3, d4] => { results := [.lit (.bool false)], args := [d1, d2, d3, d4] }
  | _ => none }
def TagSetWrongFalsely : Prop := tagSetRow.holds Try.pinned (OpenSpec.ofChange tagSetWrong)

/-- 'reevelaw4.TagVersions': WHATEVER THE INPUT: true; the input reads as it did. -/
def tagVersionsSpec : ChangeSpec := { name := "tagVersions", fn := fun _ => fun
  | [d1, d2, d3] => { results := [.lit (.bool true)], args := [d1, d2, d3] }
  | _ => none }
def tagVersionsRow : OpenClaim := { program := "ythigpfognkmegaa", sum := "9204dd8e3649f54b5cdf27dd580ce5b83a1c27bb712ea2d6c962418dfabf4e36", func := "reeve/reevelaw4.TagVersions", spec := "tagVersions", apart := false }
def TagVersionsSaid : Prop := tagVersionsRow.holds Try.pinned (OpenSpec.ofChange tagVersionsSpec)

/-- ITS FALSE NEIGHBOUR: 'it returns false'. Refute it at one input. -/
def tagVersionsWrong : ChangeSpec := { name := "tagVersions", fn := fun _ => fun
  | [d1, d2, d3] => { results := [.lit (.bool false)], args := [d1, d2, d3] }
  | _ => none }
def TagVersionsWrongFalsely : Prop := tagVersionsRow.holds Try.pinned (OpenSpec.ofChange tagVersionsWrong)

/-- 'reevelaw5.GeoKnown': WHATEVER THE INPUT: true; the input reads as it did. -/
def geoKnownSpec : ChangeSpec := { name := "geoKnown", fn := fun _ => fun
  | [] => { results := [.lit (.bool true)], args := [] }
  | _ => none }
def geoKnownRow : OpenClaim := { program := "ythigpfognkmegaa", sum := "9204dd8e3649f54b5cdf27dd580ce5b83a1c27bb712ea2d6c962418dfabf4e36", func := "reeve/reevelaw5.GeoKnown", spec := "geoKnown", apart := false }
def GeoKnownSaid : Prop := geoKnownRow.holds Try.pinned (OpenSpec.ofChange geoKnownSpec)

/-- ITS FALSE NEIGHBOUR: 'it returns false'. Refute it at one input. -/
def geoKnownWrong : ChangeSpec := { name := "geoKnown", fn := fun _ => fun
  | [] => { results := [.lit (.bool false)], args := [] }
  | _ => none }
def GeoKnownWrongFalsely : Prop := geoKnownRow.holds Try.pinned (OpenSpec.ofChange geoKnownWrong)

/-- 'reevelaw5.GeoSays': WHATEVER THE INPUT: true; the input reads as it did. -/
def geoSaysSpec : ChangeSpec := { name := "geoSays", fn := fun _ => fun
  | [d1, d2] => { results := [.lit (.bool true)], args := [d1, d2] }
  | _ => none }
def geoSaysRow : OpenClaim := { program := "ythigpfognkmegaa", sum := "9204dd8e3649f54b5cdf27dd580ce5b83a1c27bb712ea2d6c962418dfabf4e36", func := "reeve/reevelaw5.GeoSays", spec := "geoSays", apart := false }
def GeoSaysSaid : Prop := geoSaysRow.holds Try.pinned (OpenSpec.ofChange geoSaysSpec)

/-- ITS FALSE NEIGHBOUR: 'it returns false'. Refute it at one input. -/
def geoSaysWrong : ChangeSpec := { name := "geoSays", fn := fun _ => fun
  | [d1, d2] => { results := [.lit (.bool false)], args := [d1, d2] }
  | _ => none }
def GeoSaysWrongFalsely : Prop := geoSaysRow.holds Try.pinned (OpenSpec.ofChange geoSaysWrong)

/-- 'reevelaw5.GeoApart': WHATEVER THE INPUT: true; the input reads as it did. -/
def geoApartSpec : ChangeSpec := { name := "geoApart", fn := fun _ => fun
  | [d] => { results := [.lit (.bool true)], args := [d] }
  | _ => none }
def geoApartRow : OpenClaim := { program := "ythigpfognkmegaa", sum := "9204dd8e3649f54b5cdf27dd580ce5b83a1c27bb712ea2d6c962418dfabf4e36", func := "reeve/reevelaw5.GeoApart", spec := "geoApart", apart := false }
def GeoApartSaid : Prop := geoApartRow.holds Try.pinned (OpenSpec.ofChange geoApartSpec)

/-- ITS FALSE NEIGHBOUR: 'it returns false'. Refute it at one input. -/
def geoApartWrong : ChangeSpec := { name := "geoApart", fn := fun _ => fun
  | [d] => { results := [.lit (.bool false)], args := [d] }
  | _ => none }
def GeoApartWrongFalsely : Prop := geoApartRow.holds Try.pinned (OpenSpec.ofChange geoApartWrong)

/-- 'reevelaw4.TagKnown': WHATEVER THE INPUT: true; the input reads as it did. -/
def tagKnownSpec : ChangeSpec := { name := "tagKnown", fn := fun _ => fun
  | [] => { results := [.lit (.bool true)], args := [] }
  | _ => none }
def tagKnownRow : OpenClaim := { program := "ythigpfognkmegaa", sum := "9204dd8e3649f54b5cdf27dd580ce5b83a1c27bb712ea2d6c962418dfabf4e36", func := "reeve/reevelaw4.TagKnown", spec := "tagKnown", apart := false }
def TagKnownSaid : Prop := tagKnownRow.holds Try.pinned (OpenSpec.ofChange tagKnownSpec)

/-- ITS FALSE NEIGHBOUR: 'it returns false'. Refute it at one input. -/
def tagKnownWrong : ChangeSpec := { name := "tagKnown", fn := fun _ => fun
  | [] => { results := [.lit (.bool false)], args := [] }
  | _ => none }
def TagKnownWrongFalsely : Prop := tagKnownRow.holds Try.pinned (OpenSpec.ofChange tagKnownWrong)

/-- 'reevelaw4.TagSays': WHATEVER THE INPUT: true; the input reads as it did. -/
def tagSaysSpec : ChangeSpec := { name := "tagSays", fn := fun _ => fun
  | [d1, d2, d3, d4, d5] => { results := [.lit (.bool true)], args := [d1, d2, d3, d4, d5] }
  | _ => none }
def tagSaysRow : OpenClaim := { program := "ythigpfognkmegaa", sum := "9204dd8e3649f54b5cdf27dd580ce5b83a1c27bb712ea2d6c962418dfabf4e36", func := "reeve/reevelaw4.TagSays", spec := "tagSays", apart := false }
def TagSaysSaid : Prop := tagSaysRow.holds Try.pinned (OpenSpec.ofChange tagSaysSpec)

/-- ITS FALSE NEIGHBOUR: 'it returns false'. Refute it at one input. -/
def tagSaysWrong : ChangeSpec := { name := "tagSays", fn := fun _ => fun
  | [d1, d2, d3, d4, d5] => { results := [.lit (.bool false)], args := [d1, d2, d3, d4, d5] }
  | _ => none }
def TagSaysWrongFalsely : Prop := tagSaysRow.holds Try.pinned (OpenSpec.ofChange tagSaysWrong)

/- THE SECOND FORM. 'bulk': how many values and letters a reading holds, each counted each time it is reached (what is shared counts as often as it is met; a slice's spare places count too). A statement '..UptoSaid' is the law's where the arguments, and the package variables that the reading takes, are together of bulk at most 1048576: NARROWER than '..Said'. Prove '..Said' where nothing that the law and all that it calls make is longer than what came in: it says more and counts as full. Else prove '..UptoSaid'. A law counts once. -/
mutual
def uptoBulk {H : Type} : DataW H → Nat
  | .lit (.string bytes) => bytes.length + 1
  | .lit _ => 1
  | .nil => 1
  | .ptr d => uptoBulk d + 1
  | .slice elems spare => uptoBulkAll elems + uptoBulkAll spare + 1
  | .agg parts => uptoBulkAll parts + 1
  | .iface _ d => uptoBulk d + 1
  | .map entries => uptoBulkEntries entries + 1
  | .held _ => 1
def uptoBulkAll {H : Type} : List (DataW H) → Nat
  | [] => 0
  | d :: r => uptoBulk d + uptoBulkAll r
def uptoBulkEntries {H : Type} : List (Lit × DataW H) → Nat
  | [] => 0
  | x :: r => uptoBulkEntry x + uptoBulkEntries r
def uptoBulkEntry {H : Type} : Lit × DataW H → Nat
  | (.string bytes, d) => bytes.length + uptoBulk d + 1
  | (_, d) => uptoBulk d + 1
 end
def uptoSmall : (H : Type) → List (DataW H) → Bool := fun _ ds => decide (uptoBulkAll ds ≤ 1048576)
def OpenSpec.upto (s : _root_.Go.ChangeSpec) : _root_.Go.OpenSpec := { _root_.Go.OpenSpec.ofChange s with cond := some uptoSmall }

/-- 'reevelaw4.TagBack', WHERE WHAT IT READS IS OF BULK AT MOST 1048576: true; the input reads as it did. -/
def tagBackUptoRow : OpenClaim := { program := "ythigpfognkmegaa", sum := "9204dd8e3649f54b5cdf27dd580ce5b83a1c27bb712ea2d6c962418dfabf4e36", func := "reeve/reevelaw4.TagBack", spec := "tagBack", apart := false, narrowed := true }
def TagBackUptoSaid : Prop := tagBackUptoRow.holds Try.pinned (OpenSpec.upto tagBackSpec)

/-- 'reevelaw4.TagSet', WHERE WHAT IT READS IS OF BULK AT MOST 1048576: true; the input reads as it did. -/
def tagSetUptoRow : OpenClaim := { program := "ythigpfognkmegaa", sum := "9204dd8e3649f54b5cdf27dd580ce5b83a1c27bb712ea2d6c962418dfabf4e36", func := "reeve/reevelaw4.TagSet", spec := "tagSet", apart := false, narrowed := true }
def TagSetUptoSaid : Prop := tagSetUptoRow.holds Try.pinned (OpenSpec.upto tagSetSpec)

/-- 'reevelaw4.TagVersions', WHERE WHAT IT READS IS OF BULK AT MOST 1048576: true; the input reads as it did. -/
def tagVersionsUptoRow : OpenClaim := { program := "ythigpfognkmegaa", sum := "9204dd8e3649f54b5cdf27dd580ce5b83a1c27bb712ea2d6c962418dfabf4e36", func := "reeve/reevelaw4.TagVersions", spec := "tagVersions", apart := false, narrowed := true }
def TagVersionsUptoSaid : Prop := tagVersionsUptoRow.holds Try.pinned (OpenSpec.upto tagVersionsSpec)

/-- 'reevelaw5.GeoKnown', WHERE WHAT IT READS IS OF BULK AT MOST 1048576: true; the input reads as it did. -/
def geoKnownUptoRow : OpenClaim := { program := "ythigpfognkmegaa", sum := "9204dd8e3649f54b5cdf27dd580ce5b83a1c27bb712ea2d6c962418dfabf4e36", func := "reeve/reevelaw5.GeoKnown", spec := "geoKnown", apart := false, narrowed := true }
def GeoKnownUptoSaid : Prop := geoKnownUptoRow.holds Try.pinned (OpenSpec.upto geoKnownSpec)

/-- 'reevelaw5.GeoSays', WHERE WHAT IT READS IS OF BULK AT MOST 1048576: true; the input reads as it did. -/
def geoSaysUptoRow : OpenClaim := { program := "ythigpfognkmegaa", sum := "9204dd8e3649f54b5cdf27dd580ce5b83a1c27bb712ea2d6c962418dfabf4e36", func := "reeve/reevelaw5.GeoSays", spec := "geoSays", apart := false, narrowed := true }
def GeoSaysUptoSaid : Prop := geoSaysUptoRow.holds Try.pinned (OpenSpec.upto geoSaysSpec)

/-- 'reevelaw5.GeoApart', WHERE WHAT IT READS IS OF BULK AT MOST 1048576: true; the input reads as it did. -/
def geoApartUptoRow : OpenClaim := { program := "ythigpfognkmegaa", sum := "9204dd8e3649f54b5cdf27dd580ce5b83a1c27bb712ea2d6c962418dfabf4e36", func := "reeve/reevelaw5.GeoApart", spec := "geoApart", apart := false, narrowed := true }
def GeoApartUptoSaid : Prop := geoApartUptoRow.holds Try.pinned (OpenSpec.upto geoApartSpec)

/-- 'reevelaw4.TagKnown', WHERE WHAT IT READS IS OF BULK AT MOST 1048576: true; the input reads as it did. -/
def tagKnownUptoRow : OpenClaim := { program := "ythigpfognkmegaa", sum := "9204dd8e3649f54b5cdf27dd580ce5b83a1c27bb712ea2d6c962418dfabf4e36", func := "reeve/reevelaw4.TagKnown", spec := "tagKnown", apart := false, narrowed := true }
def TagKnownUptoSaid : Prop := tagKnownUptoRow.holds Try.pinned (OpenSpec.upto tagKnownSpec)

/-- 'reevelaw4.TagSays', WHERE WHAT IT READS IS OF BULK AT MOST 1048576: true; the input reads as it did. -/
def tagSaysUptoRow : OpenClaim := { program := "ythigpfognkmegaa", sum := "9204dd8e3649f54b5cdf27dd580ce5b83a1c27bb712ea2d6c962418dfabf4e36", func := "reeve/reevelaw4.TagSays", spec := "tagSays", apart := false, narrowed := true }
def TagSaysUptoSaid : Prop := tagSaysUptoRow.holds Try.pinned (OpenSpec.upto tagSaysSpec)

end Rows
end Go.Proofs.Ythigpfognkmegaa
