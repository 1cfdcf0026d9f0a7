/-
  DERIVED. GIVEN WITH THE SEED: THE CARDS: each row of YtohhbfclmkcgmaaGreatDoorRows.lean that lists a variable, with what it lists TIED to the program's text (the seventh form; the later family's looks); each row that meets fmt, with fmt's text TOLD by the authors' own Lean function (tested against real Go, not proved from fmt's source: count such statements apart). THE CARD IS WHAT COUNTS. Prove the row's statement (the work); the ties are given (YtohhbfclmkcgmaaGreatDoorTie.lean); close each card by the builder's one call (the guide's Derived/Test/ToyasCard.lean, 'card_holds'). Laid BY PROGRAM, IN A SANDBOX (cutbox-door.mjs). By AI agents, Wed Nov 11 2026. No macro, syntax, notation, axiom, sorry.
-/
import Derived.Test.YtohhbfclmkcgmaaGreatDoorRows
import GoSem.ClaimSeven
namespace Go.Proofs.YtohhbfclmkcgmaaGreatDoor
namespace Rows

/-- THE TIED CARD OF 'dowellaw17.TwistPowers'. -/
def twistPowersCard : Claim7 := { stood := { row := twistPowersRow, standIns := [], harness := (true, "e733ea7d6eafa49e88eece75aab2c54ab41ee0a5ab43a14bd53a6ce181e71e32"), looks := true }, kinds := [], alts := [], laidByText := true, laidKinds := [.data, .data, .data], laidTests := true, laidLooks := .later }
def TwistPowersCardSaid : Prop := Claim7.holds Tryz.pinned (.plain (OpenSpec.ofChange twistPowersSpec)) twistPowersCard

/-- THE TIED CARD OF 'dowellaw17.TwistParses'. -/
def twistParsesCard : Claim7 := { stood := { row := twistParsesRow, standIns := [], harness := (true, "e733ea7d6eafa49e88eece75aab2c54ab41ee0a5ab43a14bd53a6ce181e71e32"), looks := true }, kinds := [], alts := [], laidByText := true, laidKinds := [.data, .data, .data, .data, .sentinel, .sentinel, .pinned], laidTests := true, laidLooks := .later }
def TwistParsesCardSaid : Prop := Claim7.holds Tryz.pinned (.plain (OpenSpec.ofChange twistParsesSpec)) twistParsesCard

/-- THE TIED CARD OF 'dowellaw17.TwistMoves'. -/
def twistMovesCard : Claim7 := { stood := { row := twistMovesRow, standIns := [], harness := (true, "e733ea7d6eafa49e88eece75aab2c54ab41ee0a5ab43a14bd53a6ce181e71e32"), looks := true }, kinds := [], alts := [], laidByText := true, laidKinds := [.data, .data, .data, .data, .sentinel, .sentinel, .pinned], laidTests := true, laidLooks := .later }
def TwistMovesCardSaid : Prop := Claim7.holds Tryz.pinned (.plain (OpenSpec.ofChange twistMovesSpec)) twistMovesCard

/-- THE TIED CARD OF 'dowellaw17.TwistKeeps'. -/
def twistKeepsCard : Claim7 := { stood := { row := twistKeepsRow, standIns := [], harness := (true, "e733ea7d6eafa49e88eece75aab2c54ab41ee0a5ab43a14bd53a6ce181e71e32"), looks := true }, kinds := [], alts := [], laidByText := true, laidKinds := [.data, .data, .data, .data, .sentinel, .sentinel, .pinned], laidTests := true, laidLooks := .later }
def TwistKeepsCardSaid : Prop := Claim7.holds Tryz.pinned (.plain (OpenSpec.ofChange twistKeepsSpec)) twistKeepsCard

/-- THE SECOND FORM's CARD OF 'dowellaw17.TwistPowers'. -/
def twistPowersUptoCard : Claim7 := { stood := { row := twistPowersUptoRow, standIns := [], harness := (true, "e733ea7d6eafa49e88eece75aab2c54ab41ee0a5ab43a14bd53a6ce181e71e32"), looks := true }, kinds := [], alts := [], laidByText := true, laidKinds := [.data, .data, .data], laidTests := true, laidLooks := .later }
def TwistPowersUptoCardSaid : Prop := Claim7.holds Tryz.pinned (.plain (OpenSpec.upto twistPowersSpec)) twistPowersUptoCard

/-- THE SECOND FORM's CARD OF 'dowellaw17.TwistParses'. -/
def twistParsesUptoCard : Claim7 := { stood := { row := twistParsesUptoRow, standIns := [], harness := (true, "e733ea7d6eafa49e88eece75aab2c54ab41ee0a5ab43a14bd53a6ce181e71e32"), looks := true }, kinds := [], alts := [], laidByText := true, laidKinds := [.data, .data, .data, .data, .sentinel, .sentinel, .pinned], laidTests := true, laidLooks := .later }
def TwistParsesUptoCardSaid : Prop := Claim7.holds Tryz.pinned (.plain (OpenSpec.upto twistParsesSpec)) twistParsesUptoCard

/-- THE SECOND FORM's CARD OF 'dowellaw17.TwistMoves'. -/
def twistMovesUptoCard : Claim7 := { stood := { row := twistMovesUptoRow, standIns := [], harness := (true, "e733ea7d6eafa49e88eece75aab2c54ab41ee0a5ab43a14bd53a6ce181e71e32"), looks := true }, kinds := [], alts := [], laidByText := true, laidKinds := [.data, .data, .data, .data, .sentinel, .sentinel, .pinned], laidTests := true, laidLooks := .later }
def TwistMovesUptoCardSaid : Prop := Claim7.holds Tryz.pinned (.plain (OpenSpec.upto twistMovesSpec)) twistMovesUptoCard

/-- THE SECOND FORM's CARD OF 'dowellaw17.TwistKeeps'. -/
def twistKeepsUptoCard : Claim7 := { stood := { row := twistKeepsUptoRow, standIns := [], harness := (true, "e733ea7d6eafa49e88eece75aab2c54ab41ee0a5ab43a14bd53a6ce181e71e32"), looks := true }, kinds := [], alts := [], laidByText := true, laidKinds := [.data, .data, .data, .data, .sentinel, .sentinel, .pinned], laidTests := true, laidLooks := .later }
def TwistKeepsUptoCardSaid : Prop := Claim7.holds Tryz.pinned (.plain (OpenSpec.upto twistKeepsSpec)) twistKeepsUptoCard
end Rows
end Go.Proofs.YtohhbfclmkcgmaaGreatDoor
