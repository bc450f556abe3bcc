/-
  DERIVED. GIVEN WITH THE SEED: THE CARDS: each row of YtpjlnfpbkhcobaaGreatDoorRows.lean that lists a variable, with what it lists TIED to the program's text (the seventh form; the later family's looks); each row that meets fmt, with fmt's text TOLD by the authors' own Lean function (tested against real Go, not proved from fmt's source: count such statements apart). THE CARD IS WHAT COUNTS. Prove the row's statement (the work); the ties are given (YtpjlnfpbkhcobaaGreatDoorTie.lean); close each card by the builder's one call (the guide's Derived/Test/ToyasCard.lean, 'card_holds'). Laid BY PROGRAM, IN A SANDBOX (cutbox-door.mjs). By AI agents, Wed Nov 11 2026. No macro, syntax, notation, axiom, sorry.
-/
import Derived.Test.YtpjlnfpbkhcobaaGreatDoorRows
import GoSem.ClaimSeven
namespace Go.Proofs.YtpjlnfpbkhcobaaGreatDoor
namespace Rows

/-- THE TIED CARD OF 'garboardlaw48.StowageChecks'. -/
def stowageChecksCard : Claim7 := { stood := { row := stowageChecksRow, standIns := [], harness := (true, "e25b04b6d8faed09545a5263a2ff7bacd796f210eed2b446e190ec99eb4fb82f"), looks := true }, kinds := [], alts := [], laidByText := true, laidKinds := [.data, .data, .data, .sentinel, .sentinel], laidTests := true, laidLooks := .later }
def StowageChecksCardSaid : Prop := Claim7.holds Tryz.pinned (.plain (OpenSpec.ofChange stowageChecksSpec)) stowageChecksCard

/-- THE TIED CARD OF 'garboardlaw48.StowageSums'. -/
def stowageSumsCard : Claim7 := { stood := { row := stowageSumsRow, standIns := [], harness := (true, "e25b04b6d8faed09545a5263a2ff7bacd796f210eed2b446e190ec99eb4fb82f"), looks := true }, kinds := [], alts := [], laidByText := true, laidKinds := [.data, .data, .data, .sentinel, .sentinel], laidTests := true, laidLooks := .later }
def StowageSumsCardSaid : Prop := Claim7.holds Tryz.pinned (.plain (OpenSpec.ofChange stowageSumsSpec)) stowageSumsCard

/-- THE TIED CARD OF 'garboardlaw48.StowageBroken'. -/
def stowageBrokenCard : Claim7 := { stood := { row := stowageBrokenRow, standIns := [], harness := (true, "e25b04b6d8faed09545a5263a2ff7bacd796f210eed2b446e190ec99eb4fb82f"), looks := true }, kinds := [], alts := [], laidByText := true, laidKinds := [.data, .data, .data, .sentinel, .sentinel], laidTests := true, laidLooks := .later }
def StowageBrokenCardSaid : Prop := Claim7.holds Tryz.pinned (.plain (OpenSpec.ofChange stowageBrokenSpec)) stowageBrokenCard

/-- THE TIED CARD OF 'garboardlaw48.StowageRelaxes'. -/
def stowageRelaxesCard : Claim7 := { stood := { row := stowageRelaxesRow, standIns := [], harness := (true, "e25b04b6d8faed09545a5263a2ff7bacd796f210eed2b446e190ec99eb4fb82f"), looks := true }, kinds := [], alts := [], laidByText := true, laidKinds := [.data, .data, .data, .sentinel, .sentinel], laidTests := true, laidLooks := .later }
def StowageRelaxesCardSaid : Prop := Claim7.holds Tryz.pinned (.plain (OpenSpec.ofChange stowageRelaxesSpec)) stowageRelaxesCard

/-- THE TIED CARD OF 'garboardlaw48.StowageFewer'. -/
def stowageFewerCard : Claim7 := { stood := { row := stowageFewerRow, standIns := [], harness := (true, "e25b04b6d8faed09545a5263a2ff7bacd796f210eed2b446e190ec99eb4fb82f"), looks := true }, kinds := [], alts := [], laidByText := true, laidKinds := [.data, .data, .data, .sentinel, .sentinel], laidTests := true, laidLooks := .later }
def StowageFewerCardSaid : Prop := Claim7.holds Tryz.pinned (.plain (OpenSpec.ofChange stowageFewerSpec)) stowageFewerCard

/-- THE TIED CARD OF 'garboardlaw48.StowageLinear'. -/
def stowageLinearCard : Claim7 := { stood := { row := stowageLinearRow, standIns := [], harness := (true, "e25b04b6d8faed09545a5263a2ff7bacd796f210eed2b446e190ec99eb4fb82f"), looks := true }, kinds := [], alts := [], laidByText := true, laidKinds := [.data, .data, .data, .sentinel, .sentinel], laidTests := true, laidLooks := .later }
def StowageLinearCardSaid : Prop := Claim7.holds Tryz.pinned (.plain (OpenSpec.ofChange stowageLinearSpec)) stowageLinearCard

/-- THE SECOND FORM's CARD OF 'garboardlaw48.StowageChecks'. -/
def stowageChecksUptoCard : Claim7 := { stood := { row := stowageChecksUptoRow, standIns := [], harness := (true, "e25b04b6d8faed09545a5263a2ff7bacd796f210eed2b446e190ec99eb4fb82f"), looks := true }, kinds := [], alts := [], laidByText := true, laidKinds := [.data, .data, .data, .sentinel, .sentinel], laidTests := true, laidLooks := .later }
def StowageChecksUptoCardSaid : Prop := Claim7.holds Tryz.pinned (.plain (OpenSpec.upto stowageChecksSpec)) stowageChecksUptoCard

/-- THE SECOND FORM's CARD OF 'garboardlaw48.StowageSums'. -/
def stowageSumsUptoCard : Claim7 := { stood := { row := stowageSumsUptoRow, standIns := [], harness := (true, "e25b04b6d8faed09545a5263a2ff7bacd796f210eed2b446e190ec99eb4fb82f"), looks := true }, kinds := [], alts := [], laidByText := true, laidKinds := [.data, .data, .data, .sentinel, .sentinel], laidTests := true, laidLooks := .later }
def StowageSumsUptoCardSaid : Prop := Claim7.holds Tryz.pinned (.plain (OpenSpec.upto stowageSumsSpec)) stowageSumsUptoCard

/-- THE SECOND FORM's CARD OF 'garboardlaw48.StowageBroken'. -/
def stowageBrokenUptoCard : Claim7 := { stood := { row := stowageBrokenUptoRow, standIns := [], harness := (true, "e25b04b6d8faed09545a5263a2ff7bacd796f210eed2b446e190ec99eb4fb82f"), looks := true }, kinds := [], alts := [], laidByText := true, laidKinds := [.data, .data, .data, .sentinel, .sentinel], laidTests := true, laidLooks := .later }
def StowageBrokenUptoCardSaid : Prop := Claim7.holds Tryz.pinned (.plain (OpenSpec.upto stowageBrokenSpec)) stowageBrokenUptoCard

/-- THE SECOND FORM's CARD OF 'garboardlaw48.StowageRelaxes'. -/
def stowageRelaxesUptoCard : Claim7 := { stood := { row := stowageRelaxesUptoRow, standIns := [], harness := (true, "e25b04b6d8faed09545a5263a2ff7bacd796f210eed2b446e190ec99eb4fb82f"), looks := true }, kinds := [], alts := [], laidByText := true, laidKinds := [.data, .data, .data, .sentinel, .sentinel], laidTests := true, laidLooks := .later }
def StowageRelaxesUptoCardSaid : Prop := Claim7.holds Tryz.pinned (.plain (OpenSpec.upto stowageRelaxesSpec)) stowageRelaxesUptoCard

/-- THE SECOND FORM's CARD OF 'garboardlaw48.StowageFewer'. -/
def stowageFewerUptoCard : Claim7 := { stood := { row := stowageFewerUptoRow, standIns := [], harness := (true, "e25b04b6d8faed09545a5263a2ff7bacd796f210eed2b446e190ec99eb4fb82f"), looks := true }, kinds := [], alts := [], laidByText := true, laidKinds := [.data, .data, .data, .sentinel, .sentinel], laidTests := true, laidLooks := .later }
def StowageFewerUptoCardSaid : Prop := Claim7.holds Tryz.pinned (.plain (OpenSpec.upto stowageFewerSpec)) stowageFewerUptoCard

/-- THE SECOND FORM's CARD OF 'garboardlaw48.StowageLinear'. -/
def stowageLinearUptoCard : Claim7 := { stood := { row := stowageLinearUptoRow, standIns := [], harness := (true, "e25b04b6d8faed09545a5263a2ff7bacd796f210eed2b446e190ec99eb4fb82f"), looks := true }, kinds := [], alts := [], laidByText := true, laidKinds := [.data, .data, .data, .sentinel, .sentinel], laidTests := true, laidLooks := .later }
def StowageLinearUptoCardSaid : Prop := Claim7.holds Tryz.pinned (.plain (OpenSpec.upto stowageLinearSpec)) stowageLinearUptoCard
end Rows
end Go.Proofs.YtpjlnfpbkhcobaaGreatDoor
