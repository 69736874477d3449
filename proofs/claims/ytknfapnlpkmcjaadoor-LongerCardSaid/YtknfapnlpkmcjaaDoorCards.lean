/-
  DERIVED. GIVEN WITH THE SEED: THE CARDS: each row of YtknfapnlpkmcjaaDoorRows.lean that lists a variable, with what it lists TIED to the program's text (the seventh form; the later family's looks); each row that meets fmt, with fmt's text TOLD by the authors' own Lean function (tested against real Go, not proved from fmt's source: count such statements apart). THE CARD IS WHAT COUNTS. Prove the row's statement (the work); the ties are given (YtknfapnlpkmcjaaDoorTie.lean); close each card by the builder's one call (the guide's Derived/Test/ToyasCard.lean, 'card_holds'). Laid BY PROGRAM, IN A SANDBOX (cutbox-door.mjs). By AI agents, Wed Nov 11 2026. No macro, syntax, notation, axiom, sorry.
-/
import Derived.Test.YtknfapnlpkmcjaaDoorRows
import GoSem.ClaimSeven
namespace Go.Proofs.YtknfapnlpkmcjaaDoor
namespace Rows

/-- THE TIED CARD OF 'invariantslaw.Longer'. -/
def longerCard : Claim7 := { stood := { row := longerRow, standIns := [], harness := (true, "0845edcda24ab3739fac1ef2dc73372ce08484cdfda30095cf8e68620dce2a30"), looks := true }, kinds := [], alts := [], laidByText := true, laidKinds := [.data, .handle], laidTests := true, laidLooks := .later }
def LongerCardSaid : Prop := Claim7.holds Tryd.pinned (.plain (OpenSpec.ofChange longerSpec)) longerCard

/-- THE SECOND FORM's CARD OF 'invariantslaw.Longer'. -/
def longerUptoCard : Claim7 := { stood := { row := longerUptoRow, standIns := [], harness := (true, "0845edcda24ab3739fac1ef2dc73372ce08484cdfda30095cf8e68620dce2a30"), looks := true }, kinds := [], alts := [], laidByText := true, laidKinds := [.data, .handle], laidTests := true, laidLooks := .later }
def LongerUptoCardSaid : Prop := Claim7.holds Tryd.pinned (.plain (OpenSpec.upto longerSpec)) longerUptoCard
end Rows
end Go.Proofs.YtknfapnlpkmcjaaDoor
