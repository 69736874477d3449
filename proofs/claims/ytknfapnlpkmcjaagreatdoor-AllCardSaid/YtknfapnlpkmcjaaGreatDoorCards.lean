/-
  DERIVED. GIVEN WITH THE SEED: THE CARDS: each row of YtknfapnlpkmcjaaGreatDoorRows.lean that lists a variable, with what it lists TIED to the program's text (the seventh form; the later family's looks); each row that meets fmt, with fmt's text TOLD by the authors' own Lean function (tested against real Go, not proved from fmt's source: count such statements apart). THE CARD IS WHAT COUNTS. Prove the row's statement (the work); the ties are given (YtknfapnlpkmcjaaGreatDoorTie.lean); close each card by the builder's one call (the guide's Derived/Test/ToyasCard.lean, 'card_holds'). Laid BY PROGRAM, IN A SANDBOX (cutbox-door.mjs). By AI agents, Wed Nov 11 2026. No macro, syntax, notation, axiom, sorry.
-/
import Derived.Test.YtknfapnlpkmcjaaGreatDoorRows
import GoSem.ClaimSeven
namespace Go.Proofs.YtknfapnlpkmcjaaGreatDoor
namespace Rows

/-- THE TIED CARD OF 'invariantslaw.Runs'. -/
def runsCard : Claim7 := { stood := { row := runsRow, standIns := [], harness := (true, "83a9bb4ae70bd9467dbe092b97e75bd1018b595a599468b73a1fb065da8ee59c"), looks := true }, kinds := [], alts := [], laidByText := true, laidKinds := [.data, .handle], laidTests := true, laidLooks := .later }
def RunsCardSaid : Prop := Claim7.holds Tryz.pinned (.plain (OpenSpec.ofChange runsSpec)) runsCard

/-- THE TIED CARD OF 'invariantslaw.Straight'. -/
def straightCard : Claim7 := { stood := { row := straightRow, standIns := [], harness := (true, "83a9bb4ae70bd9467dbe092b97e75bd1018b595a599468b73a1fb065da8ee59c"), looks := true }, kinds := [], alts := [], laidByText := true, laidKinds := [.data, .data, .data, .data, .handle], laidTests := true, laidLooks := .later }
def StraightCardSaid : Prop := Claim7.holds Tryz.pinned (.plain (OpenSpec.ofChange straightSpec)) straightCard

/-- THE TIED CARD OF 'invariantslaw.All'. -/
def allCard : Claim7 := { stood := { row := allRow, standIns := [], harness := (true, "83a9bb4ae70bd9467dbe092b97e75bd1018b595a599468b73a1fb065da8ee59c"), looks := true }, kinds := [], alts := [], laidByText := true, laidKinds := [.data, .data, .data, .data, .handle], laidTests := true, laidLooks := .later }
def AllCardSaid : Prop := Claim7.holds Tryz.pinned (.plain (OpenSpec.ofChange allSpec)) allCard

/-- THE TIED CARD OF 'invariantslaw.Prints'. -/
def printsCard : Claim7 := { stood := { row := printsRow, standIns := [], harness := (true, "83a9bb4ae70bd9467dbe092b97e75bd1018b595a599468b73a1fb065da8ee59c"), looks := true }, kinds := [], alts := [], laidByText := true, laidKinds := [.data, .data, .data, .data, .handle], laidTests := true, laidLooks := .later }
def PrintsCardSaid : Prop := Claim7.holds Tryz.pinned (.plain (OpenSpec.ofChange printsSpec)) printsCard

/-- THE TIED CARD OF 'invariantslaw.Again'. -/
def againCard : Claim7 := { stood := { row := againRow, standIns := [], harness := (true, "83a9bb4ae70bd9467dbe092b97e75bd1018b595a599468b73a1fb065da8ee59c"), looks := true }, kinds := [], alts := [], laidByText := true, laidKinds := [.data, .data, .data, .data, .handle], laidTests := true, laidLooks := .later }
def AgainCardSaid : Prop := Claim7.holds Tryz.pinned (.plain (OpenSpec.ofChange againSpec)) againCard

/-- THE TIED CARD OF 'invariantslaw.Spaced'. -/
def spacedCard : Claim7 := { stood := { row := spacedRow, standIns := [], harness := (true, "83a9bb4ae70bd9467dbe092b97e75bd1018b595a599468b73a1fb065da8ee59c"), looks := true }, kinds := [], alts := [], laidByText := true, laidKinds := [.data, .data, .data, .data, .handle], laidTests := true, laidLooks := .later }
def SpacedCardSaid : Prop := Claim7.holds Tryz.pinned (.plain (OpenSpec.ofChange spacedSpec)) spacedCard

/-- THE TIED CARD OF 'invariantslaw.Bounds'. -/
def boundsCard : Claim7 := { stood := { row := boundsRow, standIns := [], harness := (true, "83a9bb4ae70bd9467dbe092b97e75bd1018b595a599468b73a1fb065da8ee59c"), looks := true }, kinds := [], alts := [], laidByText := true, laidKinds := [.data, .handle], laidTests := true, laidLooks := .later }
def BoundsCardSaid : Prop := Claim7.holds Tryz.pinned (.plain (OpenSpec.ofChange boundsSpec)) boundsCard

/-- THE TIED CARD OF 'invariantslaw.Remainders'. -/
def remaindersCard : Claim7 := { stood := { row := remaindersRow, standIns := [], harness := (true, "83a9bb4ae70bd9467dbe092b97e75bd1018b595a599468b73a1fb065da8ee59c"), looks := true }, kinds := [], alts := [], laidByText := true, laidKinds := [.data, .handle], laidTests := true, laidLooks := .later }
def RemaindersCardSaid : Prop := Claim7.holds Tryz.pinned (.plain (OpenSpec.ofChange remaindersSpec)) remaindersCard

/-- THE TIED CARD OF 'invariantslaw.Configs'. -/
def configsCard : Claim7 := { stood := { row := configsRow, standIns := [], harness := (true, "83a9bb4ae70bd9467dbe092b97e75bd1018b595a599468b73a1fb065da8ee59c"), looks := true }, kinds := [], alts := [], laidByText := true, laidKinds := [.data, .handle], laidTests := true, laidLooks := .later }
def ConfigsCardSaid : Prop := Claim7.holds Tryz.pinned (.plain (OpenSpec.ofChange configsSpec)) configsCard

/-- THE TIED CARD OF 'invariantslaw.Rerun'. -/
def rerunCard : Claim7 := { stood := { row := rerunRow, standIns := [], harness := (true, "83a9bb4ae70bd9467dbe092b97e75bd1018b595a599468b73a1fb065da8ee59c"), looks := true }, kinds := [], alts := [], laidByText := true, laidKinds := [.data, .data, .data, .data, .handle], laidTests := true, laidLooks := .later }
def RerunCardSaid : Prop := Claim7.holds Tryz.pinned (.plain (OpenSpec.ofChange rerunSpec)) rerunCard

/-- THE SECOND FORM's CARD OF 'invariantslaw.Runs'. -/
def runsUptoCard : Claim7 := { stood := { row := runsUptoRow, standIns := [], harness := (true, "83a9bb4ae70bd9467dbe092b97e75bd1018b595a599468b73a1fb065da8ee59c"), looks := true }, kinds := [], alts := [], laidByText := true, laidKinds := [.data, .handle], laidTests := true, laidLooks := .later }
def RunsUptoCardSaid : Prop := Claim7.holds Tryz.pinned (.plain (OpenSpec.upto runsSpec)) runsUptoCard

/-- THE SECOND FORM's CARD OF 'invariantslaw.Straight'. -/
def straightUptoCard : Claim7 := { stood := { row := straightUptoRow, standIns := [], harness := (true, "83a9bb4ae70bd9467dbe092b97e75bd1018b595a599468b73a1fb065da8ee59c"), looks := true }, kinds := [], alts := [], laidByText := true, laidKinds := [.data, .data, .data, .data, .handle], laidTests := true, laidLooks := .later }
def StraightUptoCardSaid : Prop := Claim7.holds Tryz.pinned (.plain (OpenSpec.upto straightSpec)) straightUptoCard

/-- THE SECOND FORM's CARD OF 'invariantslaw.All'. -/
def allUptoCard : Claim7 := { stood := { row := allUptoRow, standIns := [], harness := (true, "83a9bb4ae70bd9467dbe092b97e75bd1018b595a599468b73a1fb065da8ee59c"), looks := true }, kinds := [], alts := [], laidByText := true, laidKinds := [.data, .data, .data, .data, .handle], laidTests := true, laidLooks := .later }
def AllUptoCardSaid : Prop := Claim7.holds Tryz.pinned (.plain (OpenSpec.upto allSpec)) allUptoCard

/-- THE SECOND FORM's CARD OF 'invariantslaw.Prints'. -/
def printsUptoCard : Claim7 := { stood := { row := printsUptoRow, standIns := [], harness := (true, "83a9bb4ae70bd9467dbe092b97e75bd1018b595a599468b73a1fb065da8ee59c"), looks := true }, kinds := [], alts := [], laidByText := true, laidKinds := [.data, .data, .data, .data, .handle], laidTests := true, laidLooks := .later }
def PrintsUptoCardSaid : Prop := Claim7.holds Tryz.pinned (.plain (OpenSpec.upto printsSpec)) printsUptoCard

/-- THE SECOND FORM's CARD OF 'invariantslaw.Again'. -/
def againUptoCard : Claim7 := { stood := { row := againUptoRow, standIns := [], harness := (true, "83a9bb4ae70bd9467dbe092b97e75bd1018b595a599468b73a1fb065da8ee59c"), looks := true }, kinds := [], alts := [], laidByText := true, laidKinds := [.data, .data, .data, .data, .handle], laidTests := true, laidLooks := .later }
def AgainUptoCardSaid : Prop := Claim7.holds Tryz.pinned (.plain (OpenSpec.upto againSpec)) againUptoCard

/-- THE SECOND FORM's CARD OF 'invariantslaw.Spaced'. -/
def spacedUptoCard : Claim7 := { stood := { row := spacedUptoRow, standIns := [], harness := (true, "83a9bb4ae70bd9467dbe092b97e75bd1018b595a599468b73a1fb065da8ee59c"), looks := true }, kinds := [], alts := [], laidByText := true, laidKinds := [.data, .data, .data, .data, .handle], laidTests := true, laidLooks := .later }
def SpacedUptoCardSaid : Prop := Claim7.holds Tryz.pinned (.plain (OpenSpec.upto spacedSpec)) spacedUptoCard

/-- THE SECOND FORM's CARD OF 'invariantslaw.Bounds'. -/
def boundsUptoCard : Claim7 := { stood := { row := boundsUptoRow, standIns := [], harness := (true, "83a9bb4ae70bd9467dbe092b97e75bd1018b595a599468b73a1fb065da8ee59c"), looks := true }, kinds := [], alts := [], laidByText := true, laidKinds := [.data, .handle], laidTests := true, laidLooks := .later }
def BoundsUptoCardSaid : Prop := Claim7.holds Tryz.pinned (.plain (OpenSpec.upto boundsSpec)) boundsUptoCard

/-- THE SECOND FORM's CARD OF 'invariantslaw.Remainders'. -/
def remaindersUptoCard : Claim7 := { stood := { row := remaindersUptoRow, standIns := [], harness := (true, "83a9bb4ae70bd9467dbe092b97e75bd1018b595a599468b73a1fb065da8ee59c"), looks := true }, kinds := [], alts := [], laidByText := true, laidKinds := [.data, .handle], laidTests := true, laidLooks := .later }
def RemaindersUptoCardSaid : Prop := Claim7.holds Tryz.pinned (.plain (OpenSpec.upto remaindersSpec)) remaindersUptoCard

/-- THE SECOND FORM's CARD OF 'invariantslaw.Configs'. -/
def configsUptoCard : Claim7 := { stood := { row := configsUptoRow, standIns := [], harness := (true, "83a9bb4ae70bd9467dbe092b97e75bd1018b595a599468b73a1fb065da8ee59c"), looks := true }, kinds := [], alts := [], laidByText := true, laidKinds := [.data, .handle], laidTests := true, laidLooks := .later }
def ConfigsUptoCardSaid : Prop := Claim7.holds Tryz.pinned (.plain (OpenSpec.upto configsSpec)) configsUptoCard

/-- THE SECOND FORM's CARD OF 'invariantslaw.Rerun'. -/
def rerunUptoCard : Claim7 := { stood := { row := rerunUptoRow, standIns := [], harness := (true, "83a9bb4ae70bd9467dbe092b97e75bd1018b595a599468b73a1fb065da8ee59c"), looks := true }, kinds := [], alts := [], laidByText := true, laidKinds := [.data, .data, .data, .data, .handle], laidTests := true, laidLooks := .later }
def RerunUptoCardSaid : Prop := Claim7.holds Tryz.pinned (.plain (OpenSpec.upto rerunSpec)) rerunUptoCard
end Rows
end Go.Proofs.YtknfapnlpkmcjaaGreatDoor
