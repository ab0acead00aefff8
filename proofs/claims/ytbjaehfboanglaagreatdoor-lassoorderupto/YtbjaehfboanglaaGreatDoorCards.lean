/-
  DERIVED. GIVEN WITH THE SEED: THE CARDS: each row of YtbjaehfboanglaaGreatDoorRows.lean that lists a variable, with what it lists TIED to the program's text (the seventh form; the later family's looks); each row that meets fmt, with fmt's text TOLD by the authors' own Lean function (tested against real Go, not proved from fmt's source: count such statements apart). THE CARD IS WHAT COUNTS. Prove the row's statement (the work); the ties are given (YtbjaehfboanglaaGreatDoorTie.lean); close each card by the builder's one call (the guide's Derived/Test/ToyasCard.lean, 'card_holds'). Laid BY PROGRAM, IN A SANDBOX (cutbox-door.mjs). By AI agents, Wed Nov 11 2026. No macro, syntax, notation, axiom, sorry.
-/
import Derived.Test.YtbjaehfboanglaaGreatDoorRows
import GoSem.ClaimSeven
namespace Go.Proofs.YtbjaehfboanglaaGreatDoor
namespace Rows

/-- THE TIED CARD OF 'armaturelaw18.LassoMatchesReference'. -/
def lassoMatchesReferenceCard : Claim7 := { stood := { row := lassoMatchesReferenceRow, standIns := [], harness := (true, "953efbd8b76620dd0dcde23f62a43a7c3da684bc381965d3d554b63dcd91639c"), looks := true }, kinds := [], alts := [], laidByText := true, laidKinds := [.data, .data, .data], laidTests := true, laidLooks := .later }
def LassoMatchesReferenceCardSaid : Prop := Claim7.holds Tryz.pinned (.plain (OpenSpec.ofChange lassoMatchesReferenceSpec)) lassoMatchesReferenceCard

/-- THE TIED CARD OF 'armaturelaw18.LassoDecodeEncode'. -/
def lassoDecodeEncodeCard : Claim7 := { stood := { row := lassoDecodeEncodeRow, standIns := [], harness := (true, "953efbd8b76620dd0dcde23f62a43a7c3da684bc381965d3d554b63dcd91639c"), looks := true }, kinds := [], alts := [], laidByText := true, laidKinds := [.data, .data, .data], laidTests := true, laidLooks := .later }
def LassoDecodeEncodeCardSaid : Prop := Claim7.holds Tryz.pinned (.plain (OpenSpec.ofChange lassoDecodeEncodeSpec)) lassoDecodeEncodeCard

/-- THE TIED CARD OF 'armaturelaw18.LassoEncodeDecode'. -/
def lassoEncodeDecodeCard : Claim7 := { stood := { row := lassoEncodeDecodeRow, standIns := [], harness := (true, "953efbd8b76620dd0dcde23f62a43a7c3da684bc381965d3d554b63dcd91639c"), looks := true }, kinds := [], alts := [], laidByText := true, laidKinds := [.data, .data, .data], laidTests := true, laidLooks := .later }
def LassoEncodeDecodeCardSaid : Prop := Claim7.holds Tryz.pinned (.plain (OpenSpec.ofChange lassoEncodeDecodeSpec)) lassoEncodeDecodeCard

/-- THE TIED CARD OF 'armaturelaw18.LassoOrder'. -/
def lassoOrderCard : Claim7 := { stood := { row := lassoOrderRow, standIns := [], harness := (true, "953efbd8b76620dd0dcde23f62a43a7c3da684bc381965d3d554b63dcd91639c"), looks := true }, kinds := [], alts := [], laidByText := true, laidKinds := [.data, .data, .data], laidTests := true, laidLooks := .later }
def LassoOrderCardSaid : Prop := Claim7.holds Tryz.pinned (.plain (OpenSpec.ofChange lassoOrderSpec)) lassoOrderCard

/-- THE TIED CARD OF 'armaturelaw18.LassoConnectives'. -/
def lassoConnectivesCard : Claim7 := { stood := { row := lassoConnectivesRow, standIns := [], harness := (true, "953efbd8b76620dd0dcde23f62a43a7c3da684bc381965d3d554b63dcd91639c"), looks := true }, kinds := [], alts := [], laidByText := true, laidKinds := [.data, .data, .data], laidTests := true, laidLooks := .later }
def LassoConnectivesCardSaid : Prop := Claim7.holds Tryz.pinned (.plain (OpenSpec.ofChange lassoConnectivesSpec)) lassoConnectivesCard

/-- THE TIED CARD OF 'armaturelaw18.LassoStates'. -/
def lassoStatesCard : Claim7 := { stood := { row := lassoStatesRow, standIns := [], harness := (true, "953efbd8b76620dd0dcde23f62a43a7c3da684bc381965d3d554b63dcd91639c"), looks := true }, kinds := [], alts := [], laidByText := true, laidKinds := [.data, .data, .data], laidTests := true, laidLooks := .later }
def LassoStatesCardSaid : Prop := Claim7.holds Tryz.pinned (.plain (OpenSpec.ofChange lassoStatesSpec)) lassoStatesCard

/-- THE TIED CARD OF 'armaturelaw18.LassoProblem'. -/
def lassoProblemCard : Claim7 := { stood := { row := lassoProblemRow, standIns := [], harness := (true, "953efbd8b76620dd0dcde23f62a43a7c3da684bc381965d3d554b63dcd91639c"), looks := true }, kinds := [], alts := [], laidByText := true, laidKinds := [.data, .data, .data], laidTests := true, laidLooks := .later }
def LassoProblemCardSaid : Prop := Claim7.holds Tryz.pinned (.plain (OpenSpec.ofChange lassoProblemSpec)) lassoProblemCard

/-- THE SECOND FORM's CARD OF 'armaturelaw18.LassoMatchesReference'. -/
def lassoMatchesReferenceUptoCard : Claim7 := { stood := { row := lassoMatchesReferenceUptoRow, standIns := [], harness := (true, "953efbd8b76620dd0dcde23f62a43a7c3da684bc381965d3d554b63dcd91639c"), looks := true }, kinds := [], alts := [], laidByText := true, laidKinds := [.data, .data, .data], laidTests := true, laidLooks := .later }
def LassoMatchesReferenceUptoCardSaid : Prop := Claim7.holds Tryz.pinned (.plain (OpenSpec.upto lassoMatchesReferenceSpec)) lassoMatchesReferenceUptoCard

/-- THE SECOND FORM's CARD OF 'armaturelaw18.LassoDecodeEncode'. -/
def lassoDecodeEncodeUptoCard : Claim7 := { stood := { row := lassoDecodeEncodeUptoRow, standIns := [], harness := (true, "953efbd8b76620dd0dcde23f62a43a7c3da684bc381965d3d554b63dcd91639c"), looks := true }, kinds := [], alts := [], laidByText := true, laidKinds := [.data, .data, .data], laidTests := true, laidLooks := .later }
def LassoDecodeEncodeUptoCardSaid : Prop := Claim7.holds Tryz.pinned (.plain (OpenSpec.upto lassoDecodeEncodeSpec)) lassoDecodeEncodeUptoCard

/-- THE SECOND FORM's CARD OF 'armaturelaw18.LassoEncodeDecode'. -/
def lassoEncodeDecodeUptoCard : Claim7 := { stood := { row := lassoEncodeDecodeUptoRow, standIns := [], harness := (true, "953efbd8b76620dd0dcde23f62a43a7c3da684bc381965d3d554b63dcd91639c"), looks := true }, kinds := [], alts := [], laidByText := true, laidKinds := [.data, .data, .data], laidTests := true, laidLooks := .later }
def LassoEncodeDecodeUptoCardSaid : Prop := Claim7.holds Tryz.pinned (.plain (OpenSpec.upto lassoEncodeDecodeSpec)) lassoEncodeDecodeUptoCard

/-- THE SECOND FORM's CARD OF 'armaturelaw18.LassoOrder'. -/
def lassoOrderUptoCard : Claim7 := { stood := { row := lassoOrderUptoRow, standIns := [], harness := (true, "953efbd8b76620dd0dcde23f62a43a7c3da684bc381965d3d554b63dcd91639c"), looks := true }, kinds := [], alts := [], laidByText := true, laidKinds := [.data, .data, .data], laidTests := true, laidLooks := .later }
def LassoOrderUptoCardSaid : Prop := Claim7.holds Tryz.pinned (.plain (OpenSpec.upto lassoOrderSpec)) lassoOrderUptoCard

/-- THE SECOND FORM's CARD OF 'armaturelaw18.LassoConnectives'. -/
def lassoConnectivesUptoCard : Claim7 := { stood := { row := lassoConnectivesUptoRow, standIns := [], harness := (true, "953efbd8b76620dd0dcde23f62a43a7c3da684bc381965d3d554b63dcd91639c"), looks := true }, kinds := [], alts := [], laidByText := true, laidKinds := [.data, .data, .data], laidTests := true, laidLooks := .later }
def LassoConnectivesUptoCardSaid : Prop := Claim7.holds Tryz.pinned (.plain (OpenSpec.upto lassoConnectivesSpec)) lassoConnectivesUptoCard

/-- THE SECOND FORM's CARD OF 'armaturelaw18.LassoStates'. -/
def lassoStatesUptoCard : Claim7 := { stood := { row := lassoStatesUptoRow, standIns := [], harness := (true, "953efbd8b76620dd0dcde23f62a43a7c3da684bc381965d3d554b63dcd91639c"), looks := true }, kinds := [], alts := [], laidByText := true, laidKinds := [.data, .data, .data], laidTests := true, laidLooks := .later }
def LassoStatesUptoCardSaid : Prop := Claim7.holds Tryz.pinned (.plain (OpenSpec.upto lassoStatesSpec)) lassoStatesUptoCard

/-- THE SECOND FORM's CARD OF 'armaturelaw18.LassoProblem'. -/
def lassoProblemUptoCard : Claim7 := { stood := { row := lassoProblemUptoRow, standIns := [], harness := (true, "953efbd8b76620dd0dcde23f62a43a7c3da684bc381965d3d554b63dcd91639c"), looks := true }, kinds := [], alts := [], laidByText := true, laidKinds := [.data, .data, .data], laidTests := true, laidLooks := .later }
def LassoProblemUptoCardSaid : Prop := Claim7.holds Tryz.pinned (.plain (OpenSpec.upto lassoProblemSpec)) lassoProblemUptoCard
end Rows
end Go.Proofs.YtbjaehfboanglaaGreatDoor
