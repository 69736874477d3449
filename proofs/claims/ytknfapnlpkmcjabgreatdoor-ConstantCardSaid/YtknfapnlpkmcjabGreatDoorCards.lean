/-
  DERIVED. GIVEN WITH THE SEED: THE CARDS: each row of YtknfapnlpkmcjabGreatDoorRows.lean that lists a variable, with what it lists TIED to the program's text (the seventh form; the later family's looks); each row that meets fmt, with fmt's text TOLD by the authors' own Lean function (tested against real Go, not proved from fmt's source: count such statements apart). THE CARD IS WHAT COUNTS. Prove the row's statement (the work); the ties are given (YtknfapnlpkmcjabGreatDoorTie.lean); close each card by the builder's one call (the guide's Derived/Test/ToyasCard.lean, 'card_holds'). Laid BY PROGRAM, IN A SANDBOX (cutbox-door.mjs). By AI agents, Wed Nov 11 2026. No macro, syntax, notation, axiom, sorry.
-/
import Derived.Test.YtknfapnlpkmcjabGreatDoorRows
import GoSem.ClaimSeven
namespace Go.Proofs.YtknfapnlpkmcjabGreatDoor
namespace Rows

/-- THE TIED CARD OF 'invariantslaw.Sound'. -/
def soundCard : Claim7 := { stood := { row := soundRow, standIns := [], harness := (true, "72a1d743e6b8406bcf52786705ca43a1432f061932955722e99d57432948040f"), looks := true }, kinds := [], alts := [], laidByText := true, laidKinds := [.data, .handle], laidTests := true, laidLooks := .later }
def SoundCardSaid : Prop := Claim7.holds Tryz.pinned (.plain (OpenSpec.ofChange soundSpec)) soundCard

/-- THE TIED CARD OF 'invariantslaw.Left'. -/
def leftCard : Claim7 := { stood := { row := leftRow, standIns := [], harness := (true, "72a1d743e6b8406bcf52786705ca43a1432f061932955722e99d57432948040f"), looks := true }, kinds := [], alts := [], laidByText := true, laidKinds := [.data, .handle], laidTests := true, laidLooks := .later }
def LeftCardSaid : Prop := Claim7.holds Tryz.pinned (.plain (OpenSpec.ofChange leftSpec)) leftCard

/-- THE TIED CARD OF 'invariantslaw.Constant'. -/
def constantCard : Claim7 := { stood := { row := constantRow, standIns := [], harness := (true, "72a1d743e6b8406bcf52786705ca43a1432f061932955722e99d57432948040f"), looks := true }, kinds := [], alts := [], laidByText := true, laidKinds := [.data, .handle], laidTests := true, laidLooks := .later }
def ConstantCardSaid : Prop := Claim7.holds Tryz.pinned (.plain (OpenSpec.ofChange constantSpec)) constantCard

/-- THE SECOND FORM's CARD OF 'invariantslaw.Sound'. -/
def soundUptoCard : Claim7 := { stood := { row := soundUptoRow, standIns := [], harness := (true, "72a1d743e6b8406bcf52786705ca43a1432f061932955722e99d57432948040f"), looks := true }, kinds := [], alts := [], laidByText := true, laidKinds := [.data, .handle], laidTests := true, laidLooks := .later }
def SoundUptoCardSaid : Prop := Claim7.holds Tryz.pinned (.plain (OpenSpec.upto soundSpec)) soundUptoCard

/-- THE SECOND FORM's CARD OF 'invariantslaw.Left'. -/
def leftUptoCard : Claim7 := { stood := { row := leftUptoRow, standIns := [], harness := (true, "72a1d743e6b8406bcf52786705ca43a1432f061932955722e99d57432948040f"), looks := true }, kinds := [], alts := [], laidByText := true, laidKinds := [.data, .handle], laidTests := true, laidLooks := .later }
def LeftUptoCardSaid : Prop := Claim7.holds Tryz.pinned (.plain (OpenSpec.upto leftSpec)) leftUptoCard

/-- THE SECOND FORM's CARD OF 'invariantslaw.Constant'. -/
def constantUptoCard : Claim7 := { stood := { row := constantUptoRow, standIns := [], harness := (true, "72a1d743e6b8406bcf52786705ca43a1432f061932955722e99d57432948040f"), looks := true }, kinds := [], alts := [], laidByText := true, laidKinds := [.data, .handle], laidTests := true, laidLooks := .later }
def ConstantUptoCardSaid : Prop := Claim7.holds Tryz.pinned (.plain (OpenSpec.upto constantSpec)) constantUptoCard
end Rows
end Go.Proofs.YtknfapnlpkmcjabGreatDoor
