/-
  DERIVED. GIVEN WITH THE SEED: THE CARDS: each row of YtfcbhgiccgommaaDoorRows.lean that lists a variable, with what it lists TIED to the program's text (the seventh form; the later family's looks); each row that meets fmt, with fmt's text TOLD by the authors' own Lean function (tested against real Go, not proved from fmt's source: count such statements apart). THE CARD IS WHAT COUNTS. Prove the row's statement (the work); the ties are given (YtfcbhgiccgommaaDoorTie.lean); close each card by the builder's one call (the guide's Derived/Test/ToyasCard.lean, 'card_holds'). Laid BY PROGRAM, IN A SANDBOX (cutbox-door.mjs). By AI agents, Wed Nov 11 2026. No macro, syntax, notation, axiom, sorry.
-/
import Derived.Test.YtfcbhgiccgommaaDoorRows
import GoSem.ClaimSeven
namespace Go.Proofs.YtfcbhgiccgommaaDoor
namespace Rows

/-- THE TIED CARD OF 'reevelaw9.PathOne'. -/
def pathOneCard : Claim7 := { stood := { row := pathOneRow, standIns := [], harness := (true, "44557f85c06bc9e3bfa10e696a41113eff375a1ba67f2f63b92ffde260df14cd"), looks := true }, kinds := [], alts := [], laidByText := true, laidKinds := [.data, .data, .data], laidTests := true, laidLooks := .later }
def PathOneCardSaid : Prop := Claim7.holds Tryd.pinned (.plain (OpenSpec.ofChange pathOneSpec)) pathOneCard

/-- THE TIED CARD OF 'reevelaw8.CapBack'. -/
def capBackCard : Claim7 := { stood := { row := capBackRow, standIns := [], harness := (true, "44557f85c06bc9e3bfa10e696a41113eff375a1ba67f2f63b92ffde260df14cd"), looks := true }, kinds := [], alts := [], laidByText := true, laidKinds := [.data, .data, .data], laidTests := true, laidLooks := .later }
def CapBackCardSaid : Prop := Claim7.holds Tryd.pinned (.plain (OpenSpec.ofChange capBackSpec)) capBackCard

/-- THE TIED CARD OF 'reevelaw8.CapCuts'. -/
def capCutsCard : Claim7 := { stood := { row := capCutsRow, standIns := [], harness := (true, "44557f85c06bc9e3bfa10e696a41113eff375a1ba67f2f63b92ffde260df14cd"), looks := true }, kinds := [], alts := [], laidByText := true, laidKinds := [.data, .data, .data], laidTests := true, laidLooks := .later }
def CapCutsCardSaid : Prop := Claim7.holds Tryd.pinned (.plain (OpenSpec.ofChange capCutsSpec)) capCutsCard

/-- THE TIED CARD OF 'reevelaw8.CapKnown'. -/
def capKnownCard : Claim7 := { stood := { row := capKnownRow, standIns := [], harness := (true, "44557f85c06bc9e3bfa10e696a41113eff375a1ba67f2f63b92ffde260df14cd"), looks := true }, kinds := [], alts := [], laidByText := true, laidKinds := [.data, .data, .data], laidTests := true, laidLooks := .later }
def CapKnownCardSaid : Prop := Claim7.holds Tryd.pinned (.plain (OpenSpec.ofChange capKnownSpec)) capKnownCard

/-- THE TIED CARD OF 'reevelaw8.CapSays'. -/
def capSaysCard : Claim7 := { stood := { row := capSaysRow, standIns := [], harness := (true, "44557f85c06bc9e3bfa10e696a41113eff375a1ba67f2f63b92ffde260df14cd"), looks := true }, kinds := [], alts := [], laidByText := true, laidKinds := [.data, .data, .data], laidTests := true, laidLooks := .later }
def CapSaysCardSaid : Prop := Claim7.holds Tryd.pinned (.plain (OpenSpec.ofChange capSaysSpec)) capSaysCard

/-- THE TIED CARD OF 'reevelaw8.CapLess'. -/
def capLessCard : Claim7 := { stood := { row := capLessRow, standIns := [], harness := (true, "44557f85c06bc9e3bfa10e696a41113eff375a1ba67f2f63b92ffde260df14cd"), looks := true }, kinds := [], alts := [], laidByText := true, laidKinds := [.data, .data, .data], laidTests := true, laidLooks := .later }
def CapLessCardSaid : Prop := Claim7.holds Tryd.pinned (.plain (OpenSpec.ofChange capLessSpec)) capLessCard

/-- THE TIED CARD OF 'reevelaw9.PathBack'. -/
def pathBackCard : Claim7 := { stood := { row := pathBackRow, standIns := [], harness := (true, "44557f85c06bc9e3bfa10e696a41113eff375a1ba67f2f63b92ffde260df14cd"), looks := true }, kinds := [], alts := [], laidByText := true, laidKinds := [.data, .data, .data, .data, .sentinel, .sentinel, .pinned], laidTests := true, laidLooks := .later }
def PathBackCardSaid : Prop := Claim7.holds Tryd.pinned (.plain (OpenSpec.ofChange pathBackSpec)) pathBackCard

/-- THE TIED CARD OF 'reevelaw9.PathKnown'. -/
def pathKnownCard : Claim7 := { stood := { row := pathKnownRow, standIns := [], harness := (true, "44557f85c06bc9e3bfa10e696a41113eff375a1ba67f2f63b92ffde260df14cd"), looks := true }, kinds := [], alts := [], laidByText := true, laidKinds := [.data, .data, .data, .data, .sentinel, .sentinel, .pinned], laidTests := true, laidLooks := .later }
def PathKnownCardSaid : Prop := Claim7.holds Tryd.pinned (.plain (OpenSpec.ofChange pathKnownSpec)) pathKnownCard

/-- THE TIED CARD OF 'reevelaw9.PathSays'. -/
def pathSaysCard : Claim7 := { stood := { row := pathSaysRow, standIns := [], harness := (true, "44557f85c06bc9e3bfa10e696a41113eff375a1ba67f2f63b92ffde260df14cd"), looks := true }, kinds := [], alts := [], laidByText := true, laidKinds := [.data, .data, .data, .data, .sentinel, .sentinel, .pinned], laidTests := true, laidLooks := .later }
def PathSaysCardSaid : Prop := Claim7.holds Tryd.pinned (.plain (OpenSpec.ofChange pathSaysSpec)) pathSaysCard

/-- THE SECOND FORM's CARD OF 'reevelaw9.PathOne'. -/
def pathOneUptoCard : Claim7 := { stood := { row := pathOneUptoRow, standIns := [], harness := (true, "44557f85c06bc9e3bfa10e696a41113eff375a1ba67f2f63b92ffde260df14cd"), looks := true }, kinds := [], alts := [], laidByText := true, laidKinds := [.data, .data, .data], laidTests := true, laidLooks := .later }
def PathOneUptoCardSaid : Prop := Claim7.holds Tryd.pinned (.plain (OpenSpec.upto pathOneSpec)) pathOneUptoCard

/-- THE SECOND FORM's CARD OF 'reevelaw8.CapBack'. -/
def capBackUptoCard : Claim7 := { stood := { row := capBackUptoRow, standIns := [], harness := (true, "44557f85c06bc9e3bfa10e696a41113eff375a1ba67f2f63b92ffde260df14cd"), looks := true }, kinds := [], alts := [], laidByText := true, laidKinds := [.data, .data, .data], laidTests := true, laidLooks := .later }
def CapBackUptoCardSaid : Prop := Claim7.holds Tryd.pinned (.plain (OpenSpec.upto capBackSpec)) capBackUptoCard

/-- THE SECOND FORM's CARD OF 'reevelaw8.CapCuts'. -/
def capCutsUptoCard : Claim7 := { stood := { row := capCutsUptoRow, standIns := [], harness := (true, "44557f85c06bc9e3bfa10e696a41113eff375a1ba67f2f63b92ffde260df14cd"), looks := true }, kinds := [], alts := [], laidByText := true, laidKinds := [.data, .data, .data], laidTests := true, laidLooks := .later }
def CapCutsUptoCardSaid : Prop := Claim7.holds Tryd.pinned (.plain (OpenSpec.upto capCutsSpec)) capCutsUptoCard

/-- THE SECOND FORM's CARD OF 'reevelaw8.CapKnown'. -/
def capKnownUptoCard : Claim7 := { stood := { row := capKnownUptoRow, standIns := [], harness := (true, "44557f85c06bc9e3bfa10e696a41113eff375a1ba67f2f63b92ffde260df14cd"), looks := true }, kinds := [], alts := [], laidByText := true, laidKinds := [.data, .data, .data], laidTests := true, laidLooks := .later }
def CapKnownUptoCardSaid : Prop := Claim7.holds Tryd.pinned (.plain (OpenSpec.upto capKnownSpec)) capKnownUptoCard

/-- THE SECOND FORM's CARD OF 'reevelaw8.CapSays'. -/
def capSaysUptoCard : Claim7 := { stood := { row := capSaysUptoRow, standIns := [], harness := (true, "44557f85c06bc9e3bfa10e696a41113eff375a1ba67f2f63b92ffde260df14cd"), looks := true }, kinds := [], alts := [], laidByText := true, laidKinds := [.data, .data, .data], laidTests := true, laidLooks := .later }
def CapSaysUptoCardSaid : Prop := Claim7.holds Tryd.pinned (.plain (OpenSpec.upto capSaysSpec)) capSaysUptoCard

/-- THE SECOND FORM's CARD OF 'reevelaw8.CapLess'. -/
def capLessUptoCard : Claim7 := { stood := { row := capLessUptoRow, standIns := [], harness := (true, "44557f85c06bc9e3bfa10e696a41113eff375a1ba67f2f63b92ffde260df14cd"), looks := true }, kinds := [], alts := [], laidByText := true, laidKinds := [.data, .data, .data], laidTests := true, laidLooks := .later }
def CapLessUptoCardSaid : Prop := Claim7.holds Tryd.pinned (.plain (OpenSpec.upto capLessSpec)) capLessUptoCard

/-- THE SECOND FORM's CARD OF 'reevelaw9.PathBack'. -/
def pathBackUptoCard : Claim7 := { stood := { row := pathBackUptoRow, standIns := [], harness := (true, "44557f85c06bc9e3bfa10e696a41113eff375a1ba67f2f63b92ffde260df14cd"), looks := true }, kinds := [], alts := [], laidByText := true, laidKinds := [.data, .data, .data, .data, .sentinel, .sentinel, .pinned], laidTests := true, laidLooks := .later }
def PathBackUptoCardSaid : Prop := Claim7.holds Tryd.pinned (.plain (OpenSpec.upto pathBackSpec)) pathBackUptoCard

/-- THE SECOND FORM's CARD OF 'reevelaw9.PathKnown'. -/
def pathKnownUptoCard : Claim7 := { stood := { row := pathKnownUptoRow, standIns := [], harness := (true, "44557f85c06bc9e3bfa10e696a41113eff375a1ba67f2f63b92ffde260df14cd"), looks := true }, kinds := [], alts := [], laidByText := true, laidKinds := [.data, .data, .data, .data, .sentinel, .sentinel, .pinned], laidTests := true, laidLooks := .later }
def PathKnownUptoCardSaid : Prop := Claim7.holds Tryd.pinned (.plain (OpenSpec.upto pathKnownSpec)) pathKnownUptoCard

/-- THE SECOND FORM's CARD OF 'reevelaw9.PathSays'. -/
def pathSaysUptoCard : Claim7 := { stood := { row := pathSaysUptoRow, standIns := [], harness := (true, "44557f85c06bc9e3bfa10e696a41113eff375a1ba67f2f63b92ffde260df14cd"), looks := true }, kinds := [], alts := [], laidByText := true, laidKinds := [.data, .data, .data, .data, .sentinel, .sentinel, .pinned], laidTests := true, laidLooks := .later }
def PathSaysUptoCardSaid : Prop := Claim7.holds Tryd.pinned (.plain (OpenSpec.upto pathSaysSpec)) pathSaysUptoCard
end Rows
end Go.Proofs.YtfcbhgiccgommaaDoor
