/-
  DERIVED. GIVEN WITH THE SEED: THE CARDS: each row of YtpjpnmjbaedkmaaGreatDoorRows.lean that lists a variable, with what it lists TIED to the program's text (the seventh form; the later family's looks); each row that meets fmt, with fmt's text TOLD by the authors' own Lean function (tested against real Go, not proved from fmt's source: count such statements apart). THE CARD IS WHAT COUNTS. Prove the row's statement (the work); the ties are given (YtpjpnmjbaedkmaaGreatDoorTie.lean); close each card by the builder's one call (the guide's Derived/Test/ToyasCard.lean, 'card_holds'). Laid BY PROGRAM, IN A SANDBOX (cutbox-door.mjs). By AI agents, Wed Nov 11 2026. No macro, syntax, notation, axiom, sorry.
-/
import Derived.Test.YtpjpnmjbaedkmaaGreatDoorRows
import GoSem.ClaimSeven
namespace Go.Proofs.YtpjpnmjbaedkmaaGreatDoor
namespace Rows

/-- THE TIED CARD OF 'garboardlaw54.InclineFits'. -/
def inclineFitsCard : Claim7 := { stood := { row := inclineFitsRow, standIns := [], harness := (true, "dc8d4d2a778e14d49a2501b19aec9f0b2b7008a02c5e93ac0042e73cb857aa1f"), looks := true }, kinds := [], alts := [], laidByText := true, laidKinds := [.data, .data, .data, .sentinel, .sentinel], laidTests := true, laidLooks := .later }
def InclineFitsCardSaid : Prop := Claim7.holds Tryz.pinned (.plain (OpenSpec.ofChange inclineFitsSpec)) inclineFitsCard

/-- THE TIED CARD OF 'garboardlaw54.InclineHeights'. -/
def inclineHeightsCard : Claim7 := { stood := { row := inclineHeightsRow, standIns := [], harness := (true, "dc8d4d2a778e14d49a2501b19aec9f0b2b7008a02c5e93ac0042e73cb857aa1f"), looks := true }, kinds := [], alts := [], laidByText := true, laidKinds := [.data, .data, .data, .sentinel, .sentinel], laidTests := true, laidLooks := .later }
def InclineHeightsCardSaid : Prop := Claim7.holds Tryz.pinned (.plain (OpenSpec.ofChange inclineHeightsSpec)) inclineHeightsCard

/-- THE TIED CARD OF 'garboardlaw54.InclineCorrects'. -/
def inclineCorrectsCard : Claim7 := { stood := { row := inclineCorrectsRow, standIns := [], harness := (true, "dc8d4d2a778e14d49a2501b19aec9f0b2b7008a02c5e93ac0042e73cb857aa1f"), looks := true }, kinds := [], alts := [], laidByText := true, laidKinds := [.data, .data, .data, .sentinel, .sentinel], laidTests := true, laidLooks := .later }
def InclineCorrectsCardSaid : Prop := Claim7.holds Tryz.pinned (.plain (OpenSpec.ofChange inclineCorrectsSpec)) inclineCorrectsCard

/-- THE TIED CARD OF 'garboardlaw54.InclineLeast'. -/
def inclineLeastCard : Claim7 := { stood := { row := inclineLeastRow, standIns := [], harness := (true, "dc8d4d2a778e14d49a2501b19aec9f0b2b7008a02c5e93ac0042e73cb857aa1f"), looks := true }, kinds := [], alts := [], laidByText := true, laidKinds := [.data, .data, .data, .sentinel, .sentinel], laidTests := true, laidLooks := .later }
def InclineLeastCardSaid : Prop := Claim7.holds Tryz.pinned (.plain (OpenSpec.ofChange inclineLeastSpec)) inclineLeastCard

/-- THE TIED CARD OF 'garboardlaw54.InclineBetween'. -/
def inclineBetweenCard : Claim7 := { stood := { row := inclineBetweenRow, standIns := [], harness := (true, "dc8d4d2a778e14d49a2501b19aec9f0b2b7008a02c5e93ac0042e73cb857aa1f"), looks := true }, kinds := [], alts := [], laidByText := true, laidKinds := [.data, .data, .data, .sentinel, .sentinel], laidTests := true, laidLooks := .later }
def InclineBetweenCardSaid : Prop := Claim7.holds Tryz.pinned (.plain (OpenSpec.ofChange inclineBetweenSpec)) inclineBetweenCard

/-- THE TIED CARD OF 'garboardlaw54.InclineStraight'. -/
def inclineStraightCard : Claim7 := { stood := { row := inclineStraightRow, standIns := [], harness := (true, "dc8d4d2a778e14d49a2501b19aec9f0b2b7008a02c5e93ac0042e73cb857aa1f"), looks := true }, kinds := [], alts := [], laidByText := true, laidKinds := [.data, .data, .data, .sentinel, .sentinel], laidTests := true, laidLooks := .later }
def InclineStraightCardSaid : Prop := Claim7.holds Tryz.pinned (.plain (OpenSpec.ofChange inclineStraightSpec)) inclineStraightCard

/-- THE TIED CARD OF 'garboardlaw54.InclineBack'. -/
def inclineBackCard : Claim7 := { stood := { row := inclineBackRow, standIns := [], harness := (true, "dc8d4d2a778e14d49a2501b19aec9f0b2b7008a02c5e93ac0042e73cb857aa1f"), looks := true }, kinds := [], alts := [], laidByText := true, laidKinds := [.data, .data, .data, .sentinel, .sentinel], laidTests := true, laidLooks := .later }
def InclineBackCardSaid : Prop := Claim7.holds Tryz.pinned (.plain (OpenSpec.ofChange inclineBackSpec)) inclineBackCard

/-- THE SECOND FORM's CARD OF 'garboardlaw54.InclineFits'. -/
def inclineFitsUptoCard : Claim7 := { stood := { row := inclineFitsUptoRow, standIns := [], harness := (true, "dc8d4d2a778e14d49a2501b19aec9f0b2b7008a02c5e93ac0042e73cb857aa1f"), looks := true }, kinds := [], alts := [], laidByText := true, laidKinds := [.data, .data, .data, .sentinel, .sentinel], laidTests := true, laidLooks := .later }
def InclineFitsUptoCardSaid : Prop := Claim7.holds Tryz.pinned (.plain (OpenSpec.upto inclineFitsSpec)) inclineFitsUptoCard

/-- THE SECOND FORM's CARD OF 'garboardlaw54.InclineHeights'. -/
def inclineHeightsUptoCard : Claim7 := { stood := { row := inclineHeightsUptoRow, standIns := [], harness := (true, "dc8d4d2a778e14d49a2501b19aec9f0b2b7008a02c5e93ac0042e73cb857aa1f"), looks := true }, kinds := [], alts := [], laidByText := true, laidKinds := [.data, .data, .data, .sentinel, .sentinel], laidTests := true, laidLooks := .later }
def InclineHeightsUptoCardSaid : Prop := Claim7.holds Tryz.pinned (.plain (OpenSpec.upto inclineHeightsSpec)) inclineHeightsUptoCard

/-- THE SECOND FORM's CARD OF 'garboardlaw54.InclineCorrects'. -/
def inclineCorrectsUptoCard : Claim7 := { stood := { row := inclineCorrectsUptoRow, standIns := [], harness := (true, "dc8d4d2a778e14d49a2501b19aec9f0b2b7008a02c5e93ac0042e73cb857aa1f"), looks := true }, kinds := [], alts := [], laidByText := true, laidKinds := [.data, .data, .data, .sentinel, .sentinel], laidTests := true, laidLooks := .later }
def InclineCorrectsUptoCardSaid : Prop := Claim7.holds Tryz.pinned (.plain (OpenSpec.upto inclineCorrectsSpec)) inclineCorrectsUptoCard

/-- THE SECOND FORM's CARD OF 'garboardlaw54.InclineLeast'. -/
def inclineLeastUptoCard : Claim7 := { stood := { row := inclineLeastUptoRow, standIns := [], harness := (true, "dc8d4d2a778e14d49a2501b19aec9f0b2b7008a02c5e93ac0042e73cb857aa1f"), looks := true }, kinds := [], alts := [], laidByText := true, laidKinds := [.data, .data, .data, .sentinel, .sentinel], laidTests := true, laidLooks := .later }
def InclineLeastUptoCardSaid : Prop := Claim7.holds Tryz.pinned (.plain (OpenSpec.upto inclineLeastSpec)) inclineLeastUptoCard

/-- THE SECOND FORM's CARD OF 'garboardlaw54.InclineBetween'. -/
def inclineBetweenUptoCard : Claim7 := { stood := { row := inclineBetweenUptoRow, standIns := [], harness := (true, "dc8d4d2a778e14d49a2501b19aec9f0b2b7008a02c5e93ac0042e73cb857aa1f"), looks := true }, kinds := [], alts := [], laidByText := true, laidKinds := [.data, .data, .data, .sentinel, .sentinel], laidTests := true, laidLooks := .later }
def InclineBetweenUptoCardSaid : Prop := Claim7.holds Tryz.pinned (.plain (OpenSpec.upto inclineBetweenSpec)) inclineBetweenUptoCard

/-- THE SECOND FORM's CARD OF 'garboardlaw54.InclineStraight'. -/
def inclineStraightUptoCard : Claim7 := { stood := { row := inclineStraightUptoRow, standIns := [], harness := (true, "dc8d4d2a778e14d49a2501b19aec9f0b2b7008a02c5e93ac0042e73cb857aa1f"), looks := true }, kinds := [], alts := [], laidByText := true, laidKinds := [.data, .data, .data, .sentinel, .sentinel], laidTests := true, laidLooks := .later }
def InclineStraightUptoCardSaid : Prop := Claim7.holds Tryz.pinned (.plain (OpenSpec.upto inclineStraightSpec)) inclineStraightUptoCard

/-- THE SECOND FORM's CARD OF 'garboardlaw54.InclineBack'. -/
def inclineBackUptoCard : Claim7 := { stood := { row := inclineBackUptoRow, standIns := [], harness := (true, "dc8d4d2a778e14d49a2501b19aec9f0b2b7008a02c5e93ac0042e73cb857aa1f"), looks := true }, kinds := [], alts := [], laidByText := true, laidKinds := [.data, .data, .data, .sentinel, .sentinel], laidTests := true, laidLooks := .later }
def InclineBackUptoCardSaid : Prop := Claim7.holds Tryz.pinned (.plain (OpenSpec.upto inclineBackSpec)) inclineBackUptoCard
end Rows
end Go.Proofs.YtpjpnmjbaedkmaaGreatDoor
