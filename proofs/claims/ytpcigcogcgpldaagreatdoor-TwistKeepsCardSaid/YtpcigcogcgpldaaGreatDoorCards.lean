/-
  DERIVED. GIVEN WITH THE SEED: THE CARDS: each row of YtpcigcogcgpldaaGreatDoorRows.lean that lists a variable, with what it lists TIED to the program's text (the seventh form; the later family's looks); each row that meets fmt, with fmt's text TOLD by the authors' own Lean function (tested against real Go, not proved from fmt's source: count such statements apart). THE CARD IS WHAT COUNTS. Prove the row's statement (the work); the ties are given (YtpcigcogcgpldaaGreatDoorTie.lean); close each card by the builder's one call (the guide's Derived/Test/ToyasCard.lean, 'card_holds'). Laid BY PROGRAM, IN A SANDBOX (cutbox-door.mjs). By AI agents, Wed Nov 11 2026. No macro, syntax, notation, axiom, sorry.
-/
import Derived.Test.YtpcigcogcgpldaaGreatDoorRows
import GoSem.ClaimSeven
namespace Go.Proofs.YtpcigcogcgpldaaGreatDoor
namespace Rows

/-- THE TIED CARD OF 'dowellaw17.TwistParses'. -/
def twistParsesCard : Claim7 := { stood := { row := twistParsesRow, standIns := [], harness := (true, "09db3a83847211f7eb171b132fb2c31170caa96e8e09dcd14b0f75c73dc00ff1"), looks := true }, kinds := [], alts := [], laidByText := true, laidKinds := [.data, .data, .data, .data, .sentinel, .sentinel, .pinned], laidTests := true, laidLooks := .later }
def TwistParsesCardSaid : Prop := Claim7.holds Tryz.pinned (.plain (OpenSpec.ofChange twistParsesSpec)) twistParsesCard

/-- THE TIED CARD OF 'dowellaw17.TwistMoves'. -/
def twistMovesCard : Claim7 := { stood := { row := twistMovesRow, standIns := [], harness := (true, "09db3a83847211f7eb171b132fb2c31170caa96e8e09dcd14b0f75c73dc00ff1"), looks := true }, kinds := [], alts := [], laidByText := true, laidKinds := [.data, .data, .data, .data, .sentinel, .sentinel, .pinned], laidTests := true, laidLooks := .later }
def TwistMovesCardSaid : Prop := Claim7.holds Tryz.pinned (.plain (OpenSpec.ofChange twistMovesSpec)) twistMovesCard

/-- THE TIED CARD OF 'dowellaw17.TwistKeeps'. -/
def twistKeepsCard : Claim7 := { stood := { row := twistKeepsRow, standIns := [], harness := (true, "09db3a83847211f7eb171b132fb2c31170caa96e8e09dcd14b0f75c73dc00ff1"), looks := true }, kinds := [], alts := [], laidByText := true, laidKinds := [.data, .data, .data, .data, .sentinel, .sentinel, .pinned], laidTests := true, laidLooks := .later }
def TwistKeepsCardSaid : Prop := Claim7.holds Tryz.pinned (.plain (OpenSpec.ofChange twistKeepsSpec)) twistKeepsCard

/-- THE TIED CARD OF 'dowellaw07.MotionChecks'. -/
def motionChecksCard : Claim7 := { stood := { row := motionChecksRow, standIns := [], harness := (true, "09db3a83847211f7eb171b132fb2c31170caa96e8e09dcd14b0f75c73dc00ff1"), looks := true }, kinds := [], alts := [], laidByText := true, laidKinds := [.data, .data, .data, .data, .sentinel, .sentinel, .pinned], laidTests := true, laidLooks := .later }
def MotionChecksCardSaid : Prop := Claim7.holds Tryz.pinned (.plain (OpenSpec.ofChange motionChecksSpec)) motionChecksCard

/-- THE TIED CARD OF 'dowellaw07.MotionPlaces'. -/
def motionPlacesCard : Claim7 := { stood := { row := motionPlacesRow, standIns := [], harness := (true, "09db3a83847211f7eb171b132fb2c31170caa96e8e09dcd14b0f75c73dc00ff1"), looks := true }, kinds := [], alts := [], laidByText := true, laidKinds := [.data, .data, .data, .data, .sentinel, .sentinel, .pinned], laidTests := true, laidLooks := .later }
def MotionPlacesCardSaid : Prop := Claim7.holds Tryz.pinned (.plain (OpenSpec.ofChange motionPlacesSpec)) motionPlacesCard

/-- THE TIED CARD OF 'dowellaw07.MotionRigid'. -/
def motionRigidCard : Claim7 := { stood := { row := motionRigidRow, standIns := [], harness := (true, "09db3a83847211f7eb171b132fb2c31170caa96e8e09dcd14b0f75c73dc00ff1"), looks := true }, kinds := [], alts := [], laidByText := true, laidKinds := [.data, .data, .data, .data, .sentinel, .sentinel, .pinned], laidTests := true, laidLooks := .later }
def MotionRigidCardSaid : Prop := Claim7.holds Tryz.pinned (.plain (OpenSpec.ofChange motionRigidSpec)) motionRigidCard

/-- THE TIED CARD OF 'dowellaw07.MotionJoins'. -/
def motionJoinsCard : Claim7 := { stood := { row := motionJoinsRow, standIns := [], harness := (true, "09db3a83847211f7eb171b132fb2c31170caa96e8e09dcd14b0f75c73dc00ff1"), looks := true }, kinds := [], alts := [], laidByText := true, laidKinds := [.data, .data, .data, .data, .sentinel, .sentinel, .pinned], laidTests := true, laidLooks := .later }
def MotionJoinsCardSaid : Prop := Claim7.holds Tryz.pinned (.plain (OpenSpec.ofChange motionJoinsSpec)) motionJoinsCard

/-- THE TIED CARD OF 'dowellaw07.MotionKeeps'. -/
def motionKeepsCard : Claim7 := { stood := { row := motionKeepsRow, standIns := [], harness := (true, "09db3a83847211f7eb171b132fb2c31170caa96e8e09dcd14b0f75c73dc00ff1"), looks := true }, kinds := [], alts := [], laidByText := true, laidKinds := [.data, .data, .data, .data, .sentinel, .sentinel, .pinned], laidTests := true, laidLooks := .later }
def MotionKeepsCardSaid : Prop := Claim7.holds Tryz.pinned (.plain (OpenSpec.ofChange motionKeepsSpec)) motionKeepsCard

/-- THE TIED CARD OF 'dowellaw07.MotionApplies'. -/
def motionAppliesCard : Claim7 := { stood := { row := motionAppliesRow, standIns := [], harness := (true, "09db3a83847211f7eb171b132fb2c31170caa96e8e09dcd14b0f75c73dc00ff1"), looks := true }, kinds := [], alts := [], laidByText := true, laidKinds := [.data, .data, .data, .data, .sentinel, .sentinel, .pinned], laidTests := true, laidLooks := .later }
def MotionAppliesCardSaid : Prop := Claim7.holds Tryz.pinned (.plain (OpenSpec.ofChange motionAppliesSpec)) motionAppliesCard

/-- THE TIED CARD OF 'dowellaw07.MotionComposes'. -/
def motionComposesCard : Claim7 := { stood := { row := motionComposesRow, standIns := [], harness := (true, "09db3a83847211f7eb171b132fb2c31170caa96e8e09dcd14b0f75c73dc00ff1"), looks := true }, kinds := [], alts := [], laidByText := true, laidKinds := [.data, .data, .data, .data, .sentinel, .sentinel, .pinned], laidTests := true, laidLooks := .later }
def MotionComposesCardSaid : Prop := Claim7.holds Tryz.pinned (.plain (OpenSpec.ofChange motionComposesSpec)) motionComposesCard

/-- THE TIED CARD OF 'dowellaw07.MotionQuarters'. -/
def motionQuartersCard : Claim7 := { stood := { row := motionQuartersRow, standIns := [], harness := (true, "09db3a83847211f7eb171b132fb2c31170caa96e8e09dcd14b0f75c73dc00ff1"), looks := true }, kinds := [], alts := [], laidByText := true, laidKinds := [.data, .data, .data, .data, .sentinel, .sentinel, .pinned], laidTests := true, laidLooks := .later }
def MotionQuartersCardSaid : Prop := Claim7.holds Tryz.pinned (.plain (OpenSpec.ofChange motionQuartersSpec)) motionQuartersCard

/-- THE SECOND FORM's CARD OF 'dowellaw17.TwistParses'. -/
def twistParsesUptoCard : Claim7 := { stood := { row := twistParsesUptoRow, standIns := [], harness := (true, "09db3a83847211f7eb171b132fb2c31170caa96e8e09dcd14b0f75c73dc00ff1"), looks := true }, kinds := [], alts := [], laidByText := true, laidKinds := [.data, .data, .data, .data, .sentinel, .sentinel, .pinned], laidTests := true, laidLooks := .later }
def TwistParsesUptoCardSaid : Prop := Claim7.holds Tryz.pinned (.plain (OpenSpec.upto twistParsesSpec)) twistParsesUptoCard

/-- THE SECOND FORM's CARD OF 'dowellaw17.TwistMoves'. -/
def twistMovesUptoCard : Claim7 := { stood := { row := twistMovesUptoRow, standIns := [], harness := (true, "09db3a83847211f7eb171b132fb2c31170caa96e8e09dcd14b0f75c73dc00ff1"), looks := true }, kinds := [], alts := [], laidByText := true, laidKinds := [.data, .data, .data, .data, .sentinel, .sentinel, .pinned], laidTests := true, laidLooks := .later }
def TwistMovesUptoCardSaid : Prop := Claim7.holds Tryz.pinned (.plain (OpenSpec.upto twistMovesSpec)) twistMovesUptoCard

/-- THE SECOND FORM's CARD OF 'dowellaw17.TwistKeeps'. -/
def twistKeepsUptoCard : Claim7 := { stood := { row := twistKeepsUptoRow, standIns := [], harness := (true, "09db3a83847211f7eb171b132fb2c31170caa96e8e09dcd14b0f75c73dc00ff1"), looks := true }, kinds := [], alts := [], laidByText := true, laidKinds := [.data, .data, .data, .data, .sentinel, .sentinel, .pinned], laidTests := true, laidLooks := .later }
def TwistKeepsUptoCardSaid : Prop := Claim7.holds Tryz.pinned (.plain (OpenSpec.upto twistKeepsSpec)) twistKeepsUptoCard

/-- THE SECOND FORM's CARD OF 'dowellaw07.MotionChecks'. -/
def motionChecksUptoCard : Claim7 := { stood := { row := motionChecksUptoRow, standIns := [], harness := (true, "09db3a83847211f7eb171b132fb2c31170caa96e8e09dcd14b0f75c73dc00ff1"), looks := true }, kinds := [], alts := [], laidByText := true, laidKinds := [.data, .data, .data, .data, .sentinel, .sentinel, .pinned], laidTests := true, laidLooks := .later }
def MotionChecksUptoCardSaid : Prop := Claim7.holds Tryz.pinned (.plain (OpenSpec.upto motionChecksSpec)) motionChecksUptoCard

/-- THE SECOND FORM's CARD OF 'dowellaw07.MotionPlaces'. -/
def motionPlacesUptoCard : Claim7 := { stood := { row := motionPlacesUptoRow, standIns := [], harness := (true, "09db3a83847211f7eb171b132fb2c31170caa96e8e09dcd14b0f75c73dc00ff1"), looks := true }, kinds := [], alts := [], laidByText := true, laidKinds := [.data, .data, .data, .data, .sentinel, .sentinel, .pinned], laidTests := true, laidLooks := .later }
def MotionPlacesUptoCardSaid : Prop := Claim7.holds Tryz.pinned (.plain (OpenSpec.upto motionPlacesSpec)) motionPlacesUptoCard

/-- THE SECOND FORM's CARD OF 'dowellaw07.MotionRigid'. -/
def motionRigidUptoCard : Claim7 := { stood := { row := motionRigidUptoRow, standIns := [], harness := (true, "09db3a83847211f7eb171b132fb2c31170caa96e8e09dcd14b0f75c73dc00ff1"), looks := true }, kinds := [], alts := [], laidByText := true, laidKinds := [.data, .data, .data, .data, .sentinel, .sentinel, .pinned], laidTests := true, laidLooks := .later }
def MotionRigidUptoCardSaid : Prop := Claim7.holds Tryz.pinned (.plain (OpenSpec.upto motionRigidSpec)) motionRigidUptoCard

/-- THE SECOND FORM's CARD OF 'dowellaw07.MotionJoins'. -/
def motionJoinsUptoCard : Claim7 := { stood := { row := motionJoinsUptoRow, standIns := [], harness := (true, "09db3a83847211f7eb171b132fb2c31170caa96e8e09dcd14b0f75c73dc00ff1"), looks := true }, kinds := [], alts := [], laidByText := true, laidKinds := [.data, .data, .data, .data, .sentinel, .sentinel, .pinned], laidTests := true, laidLooks := .later }
def MotionJoinsUptoCardSaid : Prop := Claim7.holds Tryz.pinned (.plain (OpenSpec.upto motionJoinsSpec)) motionJoinsUptoCard

/-- THE SECOND FORM's CARD OF 'dowellaw07.MotionKeeps'. -/
def motionKeepsUptoCard : Claim7 := { stood := { row := motionKeepsUptoRow, standIns := [], harness := (true, "09db3a83847211f7eb171b132fb2c31170caa96e8e09dcd14b0f75c73dc00ff1"), looks := true }, kinds := [], alts := [], laidByText := true, laidKinds := [.data, .data, .data, .data, .sentinel, .sentinel, .pinned], laidTests := true, laidLooks := .later }
def MotionKeepsUptoCardSaid : Prop := Claim7.holds Tryz.pinned (.plain (OpenSpec.upto motionKeepsSpec)) motionKeepsUptoCard

/-- THE SECOND FORM's CARD OF 'dowellaw07.MotionApplies'. -/
def motionAppliesUptoCard : Claim7 := { stood := { row := motionAppliesUptoRow, standIns := [], harness := (true, "09db3a83847211f7eb171b132fb2c31170caa96e8e09dcd14b0f75c73dc00ff1"), looks := true }, kinds := [], alts := [], laidByText := true, laidKinds := [.data, .data, .data, .data, .sentinel, .sentinel, .pinned], laidTests := true, laidLooks := .later }
def MotionAppliesUptoCardSaid : Prop := Claim7.holds Tryz.pinned (.plain (OpenSpec.upto motionAppliesSpec)) motionAppliesUptoCard

/-- THE SECOND FORM's CARD OF 'dowellaw07.MotionComposes'. -/
def motionComposesUptoCard : Claim7 := { stood := { row := motionComposesUptoRow, standIns := [], harness := (true, "09db3a83847211f7eb171b132fb2c31170caa96e8e09dcd14b0f75c73dc00ff1"), looks := true }, kinds := [], alts := [], laidByText := true, laidKinds := [.data, .data, .data, .data, .sentinel, .sentinel, .pinned], laidTests := true, laidLooks := .later }
def MotionComposesUptoCardSaid : Prop := Claim7.holds Tryz.pinned (.plain (OpenSpec.upto motionComposesSpec)) motionComposesUptoCard

/-- THE SECOND FORM's CARD OF 'dowellaw07.MotionQuarters'. -/
def motionQuartersUptoCard : Claim7 := { stood := { row := motionQuartersUptoRow, standIns := [], harness := (true, "09db3a83847211f7eb171b132fb2c31170caa96e8e09dcd14b0f75c73dc00ff1"), looks := true }, kinds := [], alts := [], laidByText := true, laidKinds := [.data, .data, .data, .data, .sentinel, .sentinel, .pinned], laidTests := true, laidLooks := .later }
def MotionQuartersUptoCardSaid : Prop := Claim7.holds Tryz.pinned (.plain (OpenSpec.upto motionQuartersSpec)) motionQuartersUptoCard
end Rows
end Go.Proofs.YtpcigcogcgpldaaGreatDoor
