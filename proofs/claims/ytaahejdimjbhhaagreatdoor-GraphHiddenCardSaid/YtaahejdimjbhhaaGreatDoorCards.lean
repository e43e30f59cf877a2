/-
  DERIVED. GIVEN WITH THE SEED: THE CARDS: each row of YtaahejdimjbhhaaGreatDoorRows.lean that lists a variable, with what it lists TIED to the program's text (the seventh form; the later family's looks); each row that meets fmt, with fmt's text TOLD by the authors' own Lean function (tested against real Go, not proved from fmt's source: count such statements apart). THE CARD IS WHAT COUNTS. Prove the row's statement (the work); the ties are given (YtaahejdimjbhhaaGreatDoorTie.lean); close each card by the builder's one call (the guide's Derived/Test/ToyasCard.lean, 'card_holds'). Laid BY PROGRAM, IN A SANDBOX (cutbox-door.mjs). By AI agents, Wed Nov 11 2026. No macro, syntax, notation, axiom, sorry.
-/
import Derived.Test.YtaahejdimjbhhaaGreatDoorRows
import GoSem.ClaimSeven
namespace Go.Proofs.YtaahejdimjbhhaaGreatDoor
namespace Rows

/-- THE TIED CARD OF 'gouachelaw18.GraphKeys'. -/
def graphKeysCard : Claim7 := { stood := { row := graphKeysRow, standIns := [], harness := (true, "4e109ea2c4aaf7c48c187513e3aec66fa71297cb5349fddd1ce69a23a4fe51da"), looks := true }, kinds := [], alts := [], laidByText := true, laidKinds := [.data, .data], laidTests := true, laidLooks := .later }
def GraphKeysCardSaid : Prop := Claim7.holds Tryz.pinned (.plain (OpenSpec.ofChange graphKeysSpec)) graphKeysCard

/-- THE TIED CARD OF 'gouachelaw18.GraphFar'. -/
def graphFarCard : Claim7 := { stood := { row := graphFarRow, standIns := [], harness := (true, "4e109ea2c4aaf7c48c187513e3aec66fa71297cb5349fddd1ce69a23a4fe51da"), looks := true }, kinds := [], alts := [], laidByText := true, laidKinds := [.data, .data], laidTests := true, laidLooks := .later }
def GraphFarCardSaid : Prop := Claim7.holds Tryz.pinned (.plain (OpenSpec.ofChange graphFarSpec)) graphFarCard

/-- THE TIED CARD OF 'gouachelaw18.GraphStale'. -/
def graphStaleCard : Claim7 := { stood := { row := graphStaleRow, standIns := [], harness := (true, "4e109ea2c4aaf7c48c187513e3aec66fa71297cb5349fddd1ce69a23a4fe51da"), looks := true }, kinds := [], alts := [], laidByText := true, laidKinds := [.data, .data], laidTests := true, laidLooks := .later }
def GraphStaleCardSaid : Prop := Claim7.holds Tryz.pinned (.plain (OpenSpec.ofChange graphStaleSpec)) graphStaleCard

/-- THE TIED CARD OF 'gouachelaw18.GraphHidden'. -/
def graphHiddenCard : Claim7 := { stood := { row := graphHiddenRow, standIns := [], harness := (true, "4e109ea2c4aaf7c48c187513e3aec66fa71297cb5349fddd1ce69a23a4fe51da"), looks := true }, kinds := [], alts := [], laidByText := true, laidKinds := [.data, .data], laidTests := true, laidLooks := .later }
def GraphHiddenCardSaid : Prop := Claim7.holds Tryz.pinned (.plain (OpenSpec.ofChange graphHiddenSpec)) graphHiddenCard

/-- THE SECOND FORM's CARD OF 'gouachelaw18.GraphKeys'. -/
def graphKeysUptoCard : Claim7 := { stood := { row := graphKeysUptoRow, standIns := [], harness := (true, "4e109ea2c4aaf7c48c187513e3aec66fa71297cb5349fddd1ce69a23a4fe51da"), looks := true }, kinds := [], alts := [], laidByText := true, laidKinds := [.data, .data], laidTests := true, laidLooks := .later }
def GraphKeysUptoCardSaid : Prop := Claim7.holds Tryz.pinned (.plain (OpenSpec.upto graphKeysSpec)) graphKeysUptoCard

/-- THE SECOND FORM's CARD OF 'gouachelaw18.GraphFar'. -/
def graphFarUptoCard : Claim7 := { stood := { row := graphFarUptoRow, standIns := [], harness := (true, "4e109ea2c4aaf7c48c187513e3aec66fa71297cb5349fddd1ce69a23a4fe51da"), looks := true }, kinds := [], alts := [], laidByText := true, laidKinds := [.data, .data], laidTests := true, laidLooks := .later }
def GraphFarUptoCardSaid : Prop := Claim7.holds Tryz.pinned (.plain (OpenSpec.upto graphFarSpec)) graphFarUptoCard

/-- THE SECOND FORM's CARD OF 'gouachelaw18.GraphStale'. -/
def graphStaleUptoCard : Claim7 := { stood := { row := graphStaleUptoRow, standIns := [], harness := (true, "4e109ea2c4aaf7c48c187513e3aec66fa71297cb5349fddd1ce69a23a4fe51da"), looks := true }, kinds := [], alts := [], laidByText := true, laidKinds := [.data, .data], laidTests := true, laidLooks := .later }
def GraphStaleUptoCardSaid : Prop := Claim7.holds Tryz.pinned (.plain (OpenSpec.upto graphStaleSpec)) graphStaleUptoCard

/-- THE SECOND FORM's CARD OF 'gouachelaw18.GraphHidden'. -/
def graphHiddenUptoCard : Claim7 := { stood := { row := graphHiddenUptoRow, standIns := [], harness := (true, "4e109ea2c4aaf7c48c187513e3aec66fa71297cb5349fddd1ce69a23a4fe51da"), looks := true }, kinds := [], alts := [], laidByText := true, laidKinds := [.data, .data], laidTests := true, laidLooks := .later }
def GraphHiddenUptoCardSaid : Prop := Claim7.holds Tryz.pinned (.plain (OpenSpec.upto graphHiddenSpec)) graphHiddenUptoCard
end Rows
end Go.Proofs.YtaahejdimjbhhaaGreatDoor
